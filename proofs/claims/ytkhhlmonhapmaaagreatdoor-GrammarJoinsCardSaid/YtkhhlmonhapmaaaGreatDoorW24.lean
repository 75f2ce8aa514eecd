import Derived.Test.YtkhhlmonhapmaaaGreatDoorW22
import Derived.Test.YtkhhlmonhapmaaaGreatDoorW23
/- The text of a job is read as its tokens, and these as the job. No program in sight. -/
set_option linter.unusedSimpArgs false
set_option linter.unusedVariables false
namespace Go.Proofs.YtkhhlmonhapmaaaGreatDoor
open Go.RowKit
/-! ### Numbers -/
def NumB (v : Int) : Prop := 0 ≤ v ∧ v < 1000000000000000000
theorem decL_dig (n : Nat) (h : n < 10) : decL n = [UInt8.ofNat (48 + n)] := by rw [decL, dif_pos h]
theorem decL_up (n : Nat) (h : ¬ n < 10) : decL n = decL (n / 10) ++ [UInt8.ofNat (48 + n % 10)] := by
  rw [decL, dif_neg h, decL_dig (n % 10) (by omega)]
theorem dig_nat (n : Nat) (h : n < 10) : (UInt8.ofNat (48 + n)).toNat = 48 + n := by
  rw [UInt8.toNat_ofNat']; omega
theorem dig_is (n : Nat) (h : n < 10) : isDig (UInt8.ofNat (48 + n)) = true := by
  simp only [isDig, dig_nat n h, decide_eq_true_eq]; omega
theorem decL_shape (n : Nat) : ∃ c r, decL n = c :: r ∧ isDig c = true ∧ (∀ b ∈ r, isDig b = true) ∧ (0 < n → c.toNat ≠ 48) ∧ (r ≠ [] → 0 < n) := by
  induction n using Nat.strongRecOn with
  | _ n ih =>
    by_cases h : n < 10
    · refine ⟨_, [], decL_dig n h, dig_is n h, by simp, fun h0 => ?_, fun h => absurd rfl h⟩
      rw [dig_nat n h]; omega
    · obtain ⟨c, r, h1, h2, h3, h4, h5⟩ := ih (n / 10) (by omega)
      refine ⟨c, r ++ [UInt8.ofNat (48 + n % 10)], by rw [decL_up n h, h1]; rfl, h2, fun b hb => ?_, fun _ => h4 (by omega), fun _ => by omega⟩
      rcases List.mem_append.1 hb with hb | hb
      · exact h3 b hb
      · rw [List.mem_singleton] at hb; subst hb; exact dig_is _ (by omega)
theorem decL_num (n : Nat) (h : n < 1000000000000000000) : IsNum (decL n) := by
  obtain ⟨c, r, h1, h2, h3, h4, h5⟩ := decL_shape n
  have hl := decL_len 17 n (by have : (10 : Nat) ^ (17 + 1) = 1000000000000000000 := by decide
                               omega)
  rw [h1] at hl ⊢
  exact ⟨h2, h3, by simp at hl; omega, fun h => h4 (h5 h)⟩
theorem numv_snoc2 (l : List UInt8) (c : UInt8) : numv (l ++ [c]) = 10 * numv l + (c.toNat - 48) := by simp [numv, List.foldl_append]
theorem numv_dec (n : Nat) : numv (decL n) = n := by
  induction n using Nat.strongRecOn with
  | _ n ih =>
    by_cases h : n < 10
    · rw [decL_dig n h]
      show (10 * 0 + (((UInt8.ofNat (48 + n)).toNat : Int) - 48) : Int) = n
      rw [dig_nat n h]; omega
    · rw [decL_up n h, numv_snoc2, ih (n / 10) (by omega), dig_nat _ (by omega)]; omega
theorem numv_i {v : Int} (h : NumB v) : numv (decL v.toNat) = v := by rw [numv_dec]; have := h.1; omega
theorem decL_i {v : Int} (h : NumB v) : IsNum (decL v.toNat) := decL_num _ (by have := h.1; have := h.2; omega)
theorem decL_short {v : Int} (h : NumB v) : (decL v.toNat).length ≤ 18 := by
  have := decL_i h
  cases hd : decL v.toNat with
  | nil => simp
  | cons c r => rw [hd] at this; have := this.2.2.1; simp; omega
/-! ### The text -/
structure JGood (j : JF) : Prop where
  name : IsWord j.name ∧ j.name.length ≤ 32
  run : j.run.length ≤ 512
  env : j.env.length ≤ 16
  enve : ∀ p ∈ j.env, IsWord p.1 ∧ p.1.length ≤ 32 ∧ p.2.length ≤ 512
  envd : (j.env.map (·.1)).Nodup
  needs : j.needs.length ≤ 16
  neede : ∀ s ∈ j.needs, IsWord s ∧ s.length ≤ 32
  needd : j.needs.Nodup
  ready : (j.hasr = true ∧ PatOk j.ready ∧ j.ready.length ≤ 128) ∨ (j.hasr = false ∧ j.ready = [])
  restart : j.restart = 1 ∨ j.restart = 2 ∨ j.restart = 3
  base : NumB j.base
  cap : NumB j.cap
  stable : NumB j.stable
  burst : 1 ≤ j.burst ∧ j.burst ≤ 16
  window : NumB j.window
  ladder : j.ladder ≠ [] ∧ j.ladder.length ≤ 5
  laddere : ∀ p ∈ j.ladder, (p.1 = 1 ∨ p.1 = 2 ∨ p.1 = 3 ∨ p.1 = 10 ∨ p.1 = 12 ∨ p.1 = 15) ∧ NumB p.2
def headT (j : JF) : List UInt8 := [106, 111, 98, 32] ++ j.name ++ [32, 123, 10, 32, 32, 114, 117, 110, 32] ++ quoteL j.run ++ [10]
def env1T (p : List UInt8 × List UInt8) : List UInt8 := [32, 32, 101, 110, 118, 32] ++ p.1 ++ [32, 61, 32] ++ quoteL p.2 ++ [10]
def envT (l : List (List UInt8 × List UInt8)) : List UInt8 := l.flatMap env1T
def need1T (y : List UInt8) : List UInt8 := [44, 32] ++ y
def needI : List (List UInt8) → List UInt8
  | [] => []
  | x :: r => [32, 32, 110, 101, 101, 100, 115, 32] ++ x ++ r.flatMap need1T
def needsT (l : List (List UInt8)) : List UInt8 := if l = [] then [] else needI l ++ [10]
def readyT (j : JF) : List UInt8 := if j.hasr then [32, 32, 114, 101, 97, 100, 121, 32, 47] ++ slashL j.ready ++ [47, 10] else []
def restT (j : JF) : List UInt8 := [32, 32, 114, 101, 115, 116, 97, 114, 116, 32] ++ policyL j.restart ++ [10, 32, 32, 98, 97, 99, 107, 111, 102, 102, 32] ++ decL j.base.toNat ++ [32] ++ decL j.cap.toNat ++ [32] ++ decL j.stable.toNat ++ [10, 32, 32, 98, 117, 114, 115, 116, 32] ++ decL (if 0 < j.burst then j.burst else 0).toNat ++ [32] ++ decL j.window.toNat ++ [10, 32, 32, 115, 116, 111, 112]
def rungsT (p : Int × Int) : List UInt8 := [32] ++ sigN p.1 ++ [32] ++ decL p.2.toNat
def rung1T (p : Int × Int) : List UInt8 := [44] ++ rungsT p
def ladT : List (Int × Int) → List UInt8
  | [] => []
  | x :: r => rungsT x ++ r.flatMap rung1T
def jobT (j : JF) : List UInt8 := headT j ++ envT j.env ++ needsT j.needs ++ readyT j ++ restT j ++ ladT j.ladder ++ [10, 125, 10]
/-! ### Its tokens -/
abbrev KT := Int × List UInt8
def headK (j : JF) : List KT := [(1, wJob), (1, j.name), (5, [123]), (1, wRun), (3, j.run)]
def env1K (p : List UInt8 × List UInt8) : List KT := [(1, wEnv), (1, p.1), (5, [61]), (3, p.2)]
def envK (l : List (List UInt8 × List UInt8)) : List KT := l.flatMap env1K
def need1K (y : List UInt8) : List KT := [(5, [44]), (1, y)]
def needK : List (List UInt8) → List KT
  | [] => []
  | x :: r => (1, wNeeds) :: (1, x) :: r.flatMap need1K
def readyK (j : JF) : List KT := if j.hasr then [(1, wReady), (4, j.ready)] else []
def restK (j : JF) : List KT := [(1, wRestart), (1, policyL j.restart), (1, wBackoff), (2, decL j.base.toNat), (2, decL j.cap.toNat), (2, decL j.stable.toNat), (1, wBurst), (2, decL j.burst.toNat), (2, decL j.window.toNat)]
def rungK (p : Int × Int) : List KT := [(1, sigN p.1), (2, decL p.2.toNat)]
def rung1K (p : Int × Int) : List KT := (5, [44]) :: rungK p
def ladK : List (Int × Int) → List KT
  | [] => []
  | x :: r => (1, wStop) :: (rungK x ++ r.flatMap rung1K)
def jobK (j : JF) : List KT := headK j ++ envK j.env ++ needK j.needs ++ readyK j ++ restK j ++ ladK j.ladder ++ [(5, [125])]
section
variable {D : List UInt8 → Prop} {r w : List UInt8} {c : UInt8} {ms : List KT}
def isBl (c : UInt8) : Prop := c.toNat = 32 ∨ c.toNat = 9 ∨ c.toNat = 10 ∨ c.toNat = 13
theorem Reads.bl (c : UInt8) (h : isBl c) (hr : Reads D r ms) : Reads D (c :: r) ms := (Reads.blank h).then hr
theorem Reads.sg (c : UInt8) (h : c.toNat = 123 ∨ c.toNat = 125 ∨ c.toNat = 44 ∨ c.toNat = 61) (hr : Reads D r ms) : Reads D (c :: r) ((5, [c]) :: ms) := (Reads.sign h).then hr
theorem Reads.st (s : List UInt8) (hr : Reads D r ms) : Reads D (quoteL s ++ r) ((3, s) :: ms) := (Reads.str s).then hr
theorem Reads.wd (h : IsWord w) (hc : isWrd c = false) (hr : Reads D (c :: r) ms) : Reads D (w ++ c :: r) ((1, w) :: ms) := (Reads.word h).brk hc hr
theorem Reads.nm (h : IsNum w) (hc : isWrd c = false) (hr : Reads D (c :: r) ms) : Reads D (w ++ c :: r) ((2, w) :: ms) := (Reads.num h).brk hc hr
theorem Reads.pt (h : PatOk w) (hr : Reads D r ms) : Reads D (47 :: (slashL w ++ 47 :: r)) ((4, w) :: ms) := by
  have := (Reads.pat h).then hr
  simpa using this
end
theorem word_dec {w : List UInt8} (h : (match w with | [] => false | c :: r => isLet c && r.all isWrd) = true) : IsWord w := by
  cases w with
  | nil => cases h
  | cons c r =>
    simp only [Bool.and_eq_true, List.all_eq_true] at h
    exact h
theorem reads_head (j : JF) (h : JGood j) : Reads Any (headT j) (headK j) := by
  have e : headT j = [106, 111, 98] ++ 32 :: (j.name ++ 32 :: 123 :: 10 :: 32 :: 32 :: ([114, 117, 110] ++ 32 :: (quoteL j.run ++ 10 :: []))) := by simp [headT]
  rw [e]
  exact Reads.wd (word_dec (by decide)) (by decide) (.bl 32 (by unfold isBl; decide) (.wd h.name.1 (by decide) (.bl 32 (by unfold isBl; decide) (.sg 123 (by decide) (.bl 10 (by unfold isBl; decide) (.bl 32 (by unfold isBl; decide) (.bl 32 (by unfold isBl; decide) (.wd (word_dec (by decide)) (by decide) (.bl 32 (by unfold isBl; decide) (.st j.run (.bl 10 (by unfold isBl; decide) .nil)))))))))))
theorem reads_env : ∀ l : List (List UInt8 × List UInt8), (∀ p ∈ l, IsWord p.1) → Reads Any (envT l) (envK l)
  | [], _ => Reads.nil
  | p :: l, h => by
    have e : envT (p :: l) = 32 :: 32 :: ([101, 110, 118] ++ 32 :: (p.1 ++ 32 :: 61 :: 32 :: (quoteL p.2 ++ 10 :: envT l))) := by simp [envT, env1T]
    rw [e]
    exact Reads.bl 32 (by unfold isBl; decide) (.bl 32 (by unfold isBl; decide) (.wd (word_dec (by decide)) (by decide) (.bl 32 (by unfold isBl; decide) (.wd (h p (by simp)) (by decide) (.bl 32 (by unfold isBl; decide) (.sg 61 (by decide) (.bl 32 (by unfold isBl; decide) (.st p.2 (.bl 10 (by unfold isBl; decide) (reads_env l fun q hq => h q (by simp [hq])))))))))))
theorem reads_need1 : ∀ (r : List (List UInt8)) (x : List UInt8), IsWord x → (∀ y ∈ r, IsWord y) → Reads Any (x ++ (r.flatMap need1T ++ [10])) ((1, x) :: r.flatMap need1K)
  | [], x, hx, _ => Reads.wd hx (by decide) (.bl 10 (by unfold isBl; decide) .nil)
  | y :: r, x, hx, h => by
    have e : x ++ ((y :: r).flatMap need1T ++ [10]) = x ++ 44 :: 32 :: (y ++ (r.flatMap need1T ++ [10])) := by simp [need1T]
    rw [e]
    exact Reads.wd hx (by decide) (.sg 44 (by decide) (.bl 32 (by unfold isBl; decide) (reads_need1 r y (h y (by simp)) fun q hq => h q (by simp [hq]))))
theorem reads_need (l : List (List UInt8)) (h : ∀ y ∈ l, IsWord y) : Reads Any (needsT l) (needK l) := by
  cases l with
  | nil => exact Reads.nil
  | cons x r =>
    have e : needsT (x :: r) = 32 :: 32 :: ([110, 101, 101, 100, 115] ++ 32 :: (x ++ (r.flatMap need1T ++ [10]))) := by simp [needsT, needI]
    rw [e]
    exact Reads.bl 32 (by unfold isBl; decide) (.bl 32 (by unfold isBl; decide) (.wd (word_dec (by decide)) (by decide) (.bl 32 (by unfold isBl; decide) (reads_need1 r x (h x (by simp)) fun q hq => h q (by simp [hq])))))
theorem reads_ready (j : JF) (h : JGood j) : Reads Any (readyT j) (readyK j) := by
  unfold readyT readyK
  rcases h.ready with ⟨h1, h2, h3⟩ | ⟨h1, -⟩
  · rw [h1, if_pos rfl, if_pos rfl]
    have e : [32, 32, 114, 101, 97, 100, 121, 32, 47] ++ slashL j.ready ++ [47, 10] = 32 :: 32 :: ([114, 101, 97, 100, 121] ++ 32 :: 47 :: (slashL j.ready ++ 47 :: 10 :: [])) := by simp
    rw [e]
    exact Reads.bl 32 (by unfold isBl; decide) (.bl 32 (by unfold isBl; decide) (.wd (word_dec (by decide)) (by decide) (.bl 32 (by unfold isBl; decide) (.pt h2 (.bl 10 (by unfold isBl; decide) .nil)))))
  · rw [h1]; exact Reads.nil
theorem pol_word {n : Int} (h : n = 1 ∨ n = 2 ∨ n = 3) : IsWord (policyL n) := by
  rcases h with rfl | rfl | rfl <;> exact word_dec (by decide)
theorem sig_word {n : Int} (h : n = 1 ∨ n = 2 ∨ n = 3 ∨ n = 10 ∨ n = 12 ∨ n = 15) : IsWord (sigN n) := by
  rcases h with rfl | rfl | rfl | rfl | rfl | rfl <;> exact word_dec (by decide)
theorem sig_back {n : Int} (h : n = 1 ∨ n = 2 ∨ n = 3 ∨ n = 10 ∨ n = 12 ∨ n = 15) : sigv (sigN n) = n := by
  rcases h with rfl | rfl | rfl | rfl | rfl | rfl <;> decide
theorem reads_lad1 : ∀ (r : List (Int × Int)) (x : Int × Int), IsWord (sigN x.1) → NumB x.2 → (∀ y ∈ r, IsWord (sigN y.1) ∧ NumB y.2) → Reads Any (rungsT x ++ (r.flatMap rung1T ++ [10, 125, 10])) (rungK x ++ (r.flatMap rung1K ++ [(5, [125])]))
  | [], x, hx, hn, _ => by
    have e : rungsT x ++ ([].flatMap rung1T ++ [10, 125, 10]) = 32 :: (sigN x.1 ++ 32 :: (decL x.2.toNat ++ 10 :: 125 :: 10 :: [])) := by simp [rungsT]
    rw [e]
    exact Reads.bl 32 (by unfold isBl; decide) (.wd hx (by decide) (.bl 32 (by unfold isBl; decide) (.nm (decL_i hn) (by decide) (.bl 10 (by unfold isBl; decide) (.sg 125 (by decide) (.bl 10 (by unfold isBl; decide) .nil))))))
  | y :: r, x, hx, hn, h => by
    have e : rungsT x ++ ((y :: r).flatMap rung1T ++ [10, 125, 10]) = 32 :: (sigN x.1 ++ 32 :: (decL x.2.toNat ++ 44 :: (rungsT y ++ (r.flatMap rung1T ++ [10, 125, 10])))) := by simp [rungsT, rung1T]
    rw [e]
    exact Reads.bl 32 (by unfold isBl; decide) (.wd hx (by decide) (.bl 32 (by unfold isBl; decide) (.nm (decL_i hn) (by decide) (.sg 44 (by decide) (reads_lad1 r y (h y (by simp)).1 (h y (by simp)).2 fun q hq => h q (by simp [hq]))))))
theorem reads_rest (j : JF) (h : JGood j) : Reads Any (restT j ++ (ladT j.ladder ++ [10, 125, 10])) (restK j ++ (ladK j.ladder ++ [(5, [125])])) := by
  obtain ⟨x, r, hx⟩ := List.exists_cons_of_ne_nil h.ladder.1
  have he := h.laddere
  rw [hx] at he ⊢
  have hb : (if 0 < j.burst then j.burst else 0) = j.burst := if_pos (by have := h.burst.1; omega)
  have hbn : NumB j.burst := ⟨by have := h.burst.1; omega, by have := h.burst.2; omega⟩
  have e : restT j ++ (ladT (x :: r) ++ [10, 125, 10]) = 32 :: 32 :: ([114, 101, 115, 116, 97, 114, 116] ++ 32 :: (policyL j.restart ++ 10 :: 32 :: 32 :: ([98, 97, 99, 107, 111, 102, 102] ++ 32 :: (decL j.base.toNat ++ 32 :: (decL j.cap.toNat ++ 32 :: (decL j.stable.toNat ++ 10 :: 32 :: 32 :: ([98, 117, 114, 115, 116] ++ 32 :: (decL j.burst.toNat ++ 32 :: (decL j.window.toNat ++ 10 :: 32 :: 32 :: ([115, 116, 111, 112] ++ 32 :: (sigN x.1 ++ [32] ++ decL x.2.toNat ++ (r.flatMap rung1T ++ [10, 125, 10])))))))))))) := by
    simp [restT, ladT, rungsT, hb]
  have e2 : 32 :: (sigN x.1 ++ [32] ++ decL x.2.toNat ++ (r.flatMap rung1T ++ [10, 125, 10])) = rungsT x ++ (r.flatMap rung1T ++ [10, 125, 10]) := by simp [rungsT]
  rw [e]
  refine Reads.bl 32 (by unfold isBl; decide) (.bl 32 (by unfold isBl; decide) (.wd (word_dec (by decide)) (by decide) (.bl 32 (by unfold isBl; decide) (.wd (pol_word h.restart) (by decide) (.bl 10 (by unfold isBl; decide) (.bl 32 (by unfold isBl; decide) (.bl 32 (by unfold isBl; decide) (.wd (word_dec (by decide)) (by decide) (.bl 32 (by unfold isBl; decide) (.nm (decL_i h.base) (by decide) (.bl 32 (by unfold isBl; decide) (.nm (decL_i h.cap) (by decide) (.bl 32 (by unfold isBl; decide) (.nm (decL_i h.stable) (by decide) (.bl 10 (by unfold isBl; decide) (.bl 32 (by unfold isBl; decide) (.bl 32 (by unfold isBl; decide) (.wd (word_dec (by decide)) (by decide) (.bl 32 (by unfold isBl; decide) (.nm (decL_i hbn) (by decide) (.bl 32 (by unfold isBl; decide) (.nm (decL_i h.window) (by decide) (.bl 10 (by unfold isBl; decide) (.bl 32 (by unfold isBl; decide) (.bl 32 (by unfold isBl; decide) (.wd (word_dec (by decide)) (by decide) ?_))))))))))))))))))))))))))
  rw [e2]
  have := reads_lad1 r x (sig_word (he x (by simp)).1) (he x (by simp)).2 fun y hy => ⟨sig_word (he y (by simp [hy])).1, (he y (by simp [hy])).2⟩
  rw [← List.append_assoc (rungK x)] at this
  exact this
theorem reads_job (j : JF) (h : JGood j) : Reads Any (jobT j) (jobK j) := by
  have h1 := (reads_head j h).then ((reads_env j.env fun p hp => (h.enve p hp).1).then ((reads_need j.needs fun y hy => (h.neede y hy).1).then ((reads_ready j h).then (reads_rest j h))))
  have e1 : jobT j = headT j ++ (envT j.env ++ (needsT j.needs ++ (readyT j ++ (restT j ++ (ladT j.ladder ++ [10, 125, 10]))))) := by simp [jobT]
  have e2 : jobK j = headK j ++ (envK j.env ++ (needK j.needs ++ (readyK j ++ (restK j ++ (ladK j.ladder ++ [(5, [125])]))))) := by simp [jobK]
  rw [e1, e2]
  exact h1
theorem reads_jobs : ∀ l : List JF, (∀ j ∈ l, JGood j) → Reads Any (l.flatMap jobT) (l.flatMap jobK)
  | [], _ => Reads.nil
  | j :: l, h => by
    rw [List.flatMap_cons, List.flatMap_cons]
    exact (reads_job j (h j (by simp))).then (reads_jobs l fun q hq => h q (by simp [hq]))
end Go.Proofs.YtkhhlmonhapmaaaGreatDoor
namespace Go.Proofs.YtkhhlmonhapmaaaGreatDoor
open Go.RowKit
def At (ts : List Tok) : Nat → List KT → Prop
  | _, [] => True
  | k, x :: xs => (tkA ts k).kind = x.1 ∧ (tkA ts k).text = x.2 ∧ At ts (k + 1) xs
theorem At_app {ts : List Tok} : ∀ {k : Nat} {xs ys : List KT}, At ts k (xs ++ ys) ↔ At ts k xs ∧ At ts (k + xs.length) ys
  | k, [], ys => by simp [At]
  | k, x :: xs, ys => by
    simp only [List.cons_append, At, At_app, List.length_cons, and_assoc]
    rw [show k + 1 + xs.length = k + (xs.length + 1) from by omega]
theorem At_of {ts : List Tok} : ∀ {k : Nat} {ks : List KT} (pre : List Tok), pre.length = k → ∀ post : List Tok, kts post = ks → ts = pre ++ post → At ts k ks
  | k, [], _, _, _, _, _ => trivial
  | k, x :: xs, pre, hk, post, hp, hts => by
    cases post with
    | nil => cases hp
    | cons t post =>
      simp only [kts, List.map_cons, List.cons.injEq] at hp
      have e : tkA ts k = t := by
        unfold tkA
        rw [hts, List.getD_eq_getElem?_getD, List.getElem?_append_right (by omega), ← hk]; simp
      refine ⟨by rw [e, ← hp.1], by rw [e, ← hp.1], At_of (pre ++ [t]) (by simp; omega) post hp.2 (by rw [hts]; simp)⟩
theorem sigN_le (n : Int) : (sigN n).length ≤ 4 := by
  unfold sigN
  cases h : sigNames.find? (fun s => sigL s == n) with
  | none => simp
  | some s =>
    have := List.mem_of_find?_eq_some h
    simp only [sigNames, List.mem_cons, List.not_mem_nil, or_false] at this
    rcases this with rfl | rfl | rfl | rfl | rfl | rfl <;> simp
section
variable {ts : List Tok} {k : Nat}
theorem take_at {kind : Int} {text : List UInt8} {most : Nat} (h1 : (tkA ts k).kind = kind) (h2 : (tkA ts k).text = text) (h : text.length ≤ most) : gTake ts k kind most = .ok (tkA ts k) := by
  unfold gTake
  rw [if_neg (fun e => e h1), if_neg (by rw [h2]; omega)]
theorem is_at {s : List UInt8} (h1 : (tkA ts k).kind = 5) (h2 : (tkA ts k).text = s) : gIs ts k s = true := by simp [gIs, h1, h2]
theorem is_no {s : List UInt8} (h1 : (tkA ts k).kind ≠ 5) : gIs ts k s = false := by simp [gIs, h1]
theorem is_other {s : List UInt8} (h1 : (tkA ts k).text ≠ s) : gIs ts k s = false := by simp [gIs, h1]
theorem sign_at {s : List UInt8} (h1 : (tkA ts k).kind = 5) (h2 : (tkA ts k).text = s) : gSign ts k s = .ok () := by simp [gSign, is_at h1 h2]
theorem num_at {v : Int} (hv : NumB v) (h1 : (tkA ts k).kind = 2) (h2 : (tkA ts k).text = decL v.toNat) : gNum ts k = .ok v := by
  unfold gNum
  rw [take_at h1 h2 (by have := decL_short hv; omega)]
  simp only [Except.map, h2, numv_i hv]
theorem name_at {w : List UInt8} {full : Bool} (hw : w.length ≤ 32) (hf : full = false) (h1 : (tkA ts k).kind = 1) (h2 : (tkA ts k).text = w) : gName ts k full = .ok (tkA ts k) := by
  unfold gName
  rw [take_at h1 h2 hw, hf]
  rfl
theorem items_go {name : Tok} {seen : List (List UInt8)} {j j' : JF} {w : List UInt8} {k' : Nat} (h1 : (tkA ts k).kind = 1) (h2 : (tkA ts k).text = w) (hw : w ∈ items) (hs : w ≠ wEnv → w ∉ seen) (hi : gItem ts (k + 1) w j = .ok (j', k')) (hlt : k < k') : gItems ts name k seen j = gItems ts name k' (if w = wEnv then seen else seen ++ [w]) j' := by
  rw [gItems, if_neg (by rw [is_no (by rw [h1]; decide)]; decide), if_neg (by rw [h1, h2]; simpa using hw), if_neg (by rw [h2]; rintro ⟨a, b⟩; exact hs a (by simpa using b)), h2, hi]
  simp only
  rw [dif_pos ⟨hlt, tkA_lt (by rw [h1]; decide)⟩]
theorem items_fin {name : Tok} {seen : List (List UInt8)} {j : JF} (h : gIs ts k [125] = true) (hs : wRun ∈ seen) : gItems ts name k seen j = .ok (j, k + 1) := by
  rw [gItems, if_pos h, if_pos (by simpa using hs)]
theorem env_items {name : Tok} {seen : List (List UInt8)} : ∀ (l : List (List UInt8 × List UInt8)) (k : Nat) (j : JF), At ts k (envK l) → (∀ p ∈ l, p.1.length ≤ 32 ∧ p.2.length ≤ 512) → ((j.env ++ l).map (·.1)).Nodup → (j.env ++ l).length ≤ 16 → gItems ts name k seen j = gItems ts name (k + (envK l).length) seen { j with env := j.env ++ l }
  | [], k, j, _, _, _, _ => by simp [envK]
  | p :: l, k, j, h, hp, hd, hl => by
    obtain ⟨a1, a2, b1, b2, c1, c2, d1, d2, h5⟩ := h
    have hpp := hp p (by simp)
    have hi : gItem ts (k + 1) wEnv j = .ok ({ j with env := j.env ++ [p] }, k + 1 + 3) := by
      unfold gItem
      rw [if_neg (by decide), if_pos rfl]
      have e : gVar ts (k + 1) j.env = .ok p := by
        unfold gVar
        rw [name_at hpp.1 (by simp at hl; exact decide_eq_false (by omega)) b1 b2]
        simp only [bind, Except.bind]
        have hn : j.env.any (fun x => x.1 == (tkA ts (k + 1)).text) = false := by
          rw [b2, List.any_eq_false]
          intro x hx he
          rw [List.map_append, List.map_cons, List.nodup_append] at hd
          exact hd.2.2 x.1 (List.mem_map_of_mem hx) p.1 (by simp) (by simpa using he)
        rw [hn]
        simp only [Bool.false_eq_true, if_false]
        rw [sign_at c1 c2]
        simp only
        rw [take_at d1 d2 hpp.2]
        simp only [b2, d2]
      rw [e]; rfl
    rw [items_go a1 a2 (by decide) (fun h => absurd rfl h) hi (by omega), if_pos rfl, show k + 1 + 3 = k + 1 + 1 + 1 + 1 from rfl, env_items l (k + 1 + 1 + 1 + 1) { j with env := j.env ++ [p] } h5 (fun q hq => hp q (by simp [hq])) (by simpa using hd) (by simpa using hl)]
    simp only [List.append_assoc, List.cons_append, List.nil_append, envK, List.flatMap_cons, List.length_append]
    rw [show (env1K p).length = 4 from rfl, show k + 1 + 1 + 1 + 1 + (List.flatMap env1K l).length = k + (4 + (List.flatMap env1K l).length) from by omega]
theorem need_list : ∀ (r : List (List UInt8)) (x : List UInt8) (k : Nat) (out : List (List UInt8)), At ts k ((1, x) :: r.flatMap need1K) → gIs ts (k + 1 + 2 * r.length) [44] = false → (∀ y ∈ x :: r, y.length ≤ 32) → (out ++ x :: r).Nodup → (out ++ x :: r).length ≤ 16 → gList (gNeed ts) 1 ts k out = .ok (out ++ x :: r, k + 1 + 2 * r.length)
  | r, x, k, out, h, hc, hw, hd, hl => by
    obtain ⟨a1, a2, h2⟩ := h
    have e : gNeed ts k out = .ok x := by
      unfold gNeed
      rw [name_at (hw x (by simp)) (by simp at hl; exact decide_eq_false (by omega)) a1 a2]
      simp only [bind, Except.bind]
      have hn : out.contains (tkA ts k).text = false := by
        rw [a2]
        cases hcn : out.contains x with
        | false => rfl
        | true =>
          exfalso
          rw [List.nodup_append] at hd
          exact hd.2.2 x (by simpa using hcn) x (by simp) rfl
      rw [hn]
      simp only [Bool.false_eq_true, if_false, a2]
    rw [gList, e]
    simp only
    cases r with
    | nil =>
      rw [dif_neg (fun hh => by rw [show k + 1 = k + 1 + 2 * ([] : List (List UInt8)).length from rfl, hc] at hh; cases hh.2)]
      rfl
    | cons y r =>
      obtain ⟨b1, b2, h3⟩ := h2
      rw [dif_pos ⟨tkA_lt (by rw [b1]; decide), is_at b1 b2⟩]
      have hlen : k + 1 + 2 * (y :: r).length = k + 1 + 1 + 1 + 2 * r.length := by simp only [List.length_cons]; omega
      rw [hlen] at hc ⊢
      rw [need_list r y (k + 1 + 1) (out ++ [x]) h3 hc (fun q hq => hw q (by simp at hq ⊢; right; exact hq)) (by simpa using hd) (by simpa using hl)]
      simp
theorem rungs_list : ∀ (r : List (Int × Int)) (x : Int × Int) (k : Nat) (out : List (Int × Int)), At ts k (rungK x ++ r.flatMap rung1K) → gIs ts (k + 2 + 3 * r.length) [44] = false → (∀ y ∈ x :: r, (y.1 = 1 ∨ y.1 = 2 ∨ y.1 = 3 ∨ y.1 = 10 ∨ y.1 = 12 ∨ y.1 = 15) ∧ NumB y.2) → (out ++ x :: r).length ≤ 5 → gList (gRung ts) 2 ts k out = .ok (out ++ x :: r, k + 2 + 3 * r.length)
  | r, x, k, out, h, hc, hw, hl => by
    obtain ⟨a1, a2, b1, b2, h2⟩ := h
    obtain ⟨hs, hn⟩ := hw x (by simp)
    have hne : sigv (sigN x.1) ≠ 0 := by rw [sig_back hs]; omega
    have e : gRung ts k out = .ok x := by
      unfold gRung
      have := sigN_le x.1
      rw [take_at a1 a2 (show (sigN x.1).length ≤ 8192 by omega)]
      simp only [bind, Except.bind]
      rw [if_neg (by simp at hl; omega), a2, if_neg hne, num_at hn b1 b2, sig_back hs]
    rw [gList, e]
    simp only
    cases r with
    | nil =>
      rw [dif_neg (fun hh => by rw [show k + 2 = k + 2 + 3 * ([] : List (Int × Int)).length from rfl, hc] at hh; cases hh.2)]
      rfl
    | cons y r =>
      obtain ⟨c1, c2, h3⟩ := h2
      rw [dif_pos ⟨tkA_lt (by rw [show k + 2 = k + 1 + 1 from rfl, c1]; decide), is_at c1 c2⟩]
      have hlen : k + 2 + 3 * (y :: r).length = k + 2 + 1 + 2 + 3 * r.length := by simp only [List.length_cons]; omega
      rw [hlen] at hc ⊢
      rw [rungs_list r y (k + 2 + 1) (out ++ [x]) h3 hc (fun q hq => hw q (by simp at hq ⊢; right; exact hq)) (by simpa using hl)]
      simp
end
end Go.Proofs.YtkhhlmonhapmaaaGreatDoor
namespace Go.Proofs.YtkhhlmonhapmaaaGreatDoor
open Go.RowKit
theorem need1K_len (r : List (List UInt8)) : (r.flatMap need1K).length = 2 * r.length := by
  induction r with
  | nil => rfl
  | cons y r ih => simp only [List.flatMap_cons, List.length_append, ih, List.length_cons]; simp [need1K]; omega
theorem rung1K_len (r : List (Int × Int)) : (r.flatMap rung1K).length = 3 * r.length := by
  induction r with
  | nil => rfl
  | cons y r ih => simp only [List.flatMap_cons, List.length_append, ih, List.length_cons]; simp [rung1K, rungK]; omega
section
variable {ts : List Tok} {k : Nat}
def Seen (seen ws : List (List UInt8)) : Prop := wRun ∈ seen ∧ ∀ w ∈ ws, w ∉ seen
theorem Seen.step {seen ws : List (List UInt8)} {w : List UInt8} (h : Seen seen (w :: ws)) (hn : w ∉ ws) : Seen (seen ++ [w]) ws := by
  refine ⟨List.mem_append_left _ h.1, fun v hv hm => ?_⟩
  rcases List.mem_append.1 hm with hm | hm
  · exact h.2 v (by simp [hv]) hm
  · rw [List.mem_singleton] at hm; subst hm; exact hn hv
theorem Seen.drop {seen ws : List (List UInt8)} {w : List UInt8} (h : Seen seen (w :: ws)) : Seen seen ws := ⟨h.1, fun v hv => h.2 v (by simp [hv])⟩
theorem step_run {name : Tok} {j : JF} {run : List UInt8} (h : At ts k [(1, wRun), (3, run)]) (hl : run.length ≤ 512) : gItems ts name k [] j = gItems ts name (k + 2) [wRun] { j with run := run } := by
  obtain ⟨a1, a2, b1, b2, -⟩ := h
  rw [items_go (j' := { j with run := run }) (k' := k + 2) a1 a2 (by decide) (fun _ => by simp) ?_ (by omega), if_neg (by decide)]
  · rfl
  · unfold gItem
    rw [if_pos rfl, take_at b1 b2 hl]
    simp only [Except.map, b2]
theorem step_need {name : Tok} {j : JF} {seen : List (List UInt8)} {l : List (List UInt8)} (h : At ts k (needK l)) (hs : Seen seen [wNeeds, wReady, wRestart, wBackoff, wBurst, wStop]) (hj : j.needs = []) (hend : gIs ts (k + (needK l).length) [44] = false) (hw : ∀ y ∈ l, y.length ≤ 32) (hd : l.Nodup) (hl : l.length ≤ 16) :
    ∃ seen', Seen seen' [wReady, wRestart, wBackoff, wBurst, wStop] ∧ gItems ts name k seen j = gItems ts name (k + (needK l).length) seen' { j with needs := l } := by
  cases l with
  | nil => exact ⟨seen, hs.drop, by cases j; cases hj; rfl⟩
  | cons x r =>
    obtain ⟨a1, a2, h2⟩ := h
    have hlen : (needK (x :: r)).length = 2 + 2 * r.length := by simp only [needK, List.length_cons, need1K_len]; omega
    rw [hlen] at hend ⊢
    have e : k + (2 + 2 * r.length) = k + 1 + 1 + 2 * r.length := by omega
    rw [e] at hend ⊢
    refine ⟨seen ++ [wNeeds], hs.step (by decide), ?_⟩
    rw [items_go (j' := { j with needs := x :: r }) (k' := k + 1 + 1 + 2 * r.length) a1 a2 (by decide) (fun _ => hs.2 _ (by simp)) ?_ (by omega), if_neg (by decide)]
    unfold gItem
    rw [if_neg (by decide), if_neg (by decide), if_pos rfl, need_list r x (k + 1) [] h2 hend hw hd hl]
    rfl
theorem step_ready {name : Tok} {j g : JF} {seen : List (List UInt8)} (h : At ts k (readyK g)) (hs : Seen seen [wReady, wRestart, wBackoff, wBurst, wStop]) (hj : j.ready = [] ∧ j.hasr = false) (hg : (g.hasr = true ∧ PatOk g.ready ∧ g.ready.length ≤ 128) ∨ (g.hasr = false ∧ g.ready = [])) :
    ∃ seen', Seen seen' [wRestart, wBackoff, wBurst, wStop] ∧ gItems ts name k seen j = gItems ts name (k + (readyK g).length) seen' { j with hasr := g.hasr, ready := g.ready } := by
  unfold readyK at h ⊢
  rcases hg with ⟨h1, -, h3⟩ | ⟨h1, h2⟩
  · rw [h1, if_pos rfl] at h
    obtain ⟨a1, a2, b1, b2, -⟩ := h
    refine ⟨seen ++ [wReady], hs.step (by decide), ?_⟩
    rw [h1, if_pos rfl, items_go (j' := { j with hasr := true, ready := g.ready }) (k' := k + 2) a1 a2 (by decide) (fun _ => hs.2 _ (by simp)) ?_ (by omega), if_neg (by decide)]
    · rfl
    · unfold gItem
      rw [if_neg (by decide), if_neg (by decide), if_neg (by decide), if_pos rfl, take_at b1 b2 h3]
      simp only [Except.map, b2]
  · refine ⟨seen, hs.drop, ?_⟩
    rw [h1, h2]
    obtain ⟨h5, h6⟩ := hj
    cases j
    cases h5
    cases h6
    rfl
theorem step_rest {name : Tok} {j g : JF} {seen : List (List UInt8)} (h : At ts k (restK g)) (hs : Seen seen [wRestart, wBackoff, wBurst, wStop]) (hg : JGood g) :
    ∃ seen', Seen seen' [wStop] ∧ gItems ts name k seen j = gItems ts name (k + 9) seen' { j with restart := g.restart, base := g.base, cap := g.cap, stable := g.stable, burst := g.burst, window := g.window } := by
  obtain ⟨a1, a2, b1, b2, c1, c2, d1, d2, e1, e2, f1, f2, p1, p2, q1, q2, r1, r2, -⟩ := h
  have hs2 := hs.step (by decide)
  have hs3 := hs2.step (by decide)
  have hs4 := hs3.step (by decide)
  have hbn : NumB g.burst := ⟨by have := hg.burst.1; omega, by have := hg.burst.2; omega⟩
  refine ⟨_, hs4, ?_⟩
  rw [items_go (j' := { j with restart := g.restart }) (k' := k + 2) a1 a2 (by decide) (fun _ => hs.2 _ (by simp)) ?_ (by omega), if_neg (by decide),
    items_go (j' := { j with restart := g.restart, base := g.base, cap := g.cap, stable := g.stable }) (k' := k + 2 + 4) c1 c2 (by decide) (fun _ => hs2.2 _ (by simp)) ?_ (by omega), if_neg (by decide),
    items_go (j' := { j with restart := g.restart, base := g.base, cap := g.cap, stable := g.stable, burst := g.burst, window := g.window }) (k' := k + 9) p1 p2 (by decide) (fun _ => hs3.2 _ (by simp)) ?_ (by omega), if_neg (by decide)]
  · unfold gItem
    rw [if_neg (by decide), if_neg (by decide), if_neg (by decide), if_neg (by decide), if_neg (by decide), if_neg (by decide), if_pos rfl, num_at hbn q1 q2]
    simp only [bind, Except.bind]
    rw [if_neg (by have := hg.burst; omega), num_at hg.window r1 r2]
  · unfold gItem
    rw [if_neg (by decide), if_neg (by decide), if_neg (by decide), if_neg (by decide), if_neg (by decide), if_pos rfl, num_at hg.base d1 d2]
    simp only [bind, Except.bind]
    rw [num_at hg.cap e1 e2]
    simp only
    rw [num_at hg.stable f1 f2]
  · unfold gItem
    rw [if_neg (by decide), if_neg (by decide), if_neg (by decide), if_neg (by decide), if_pos rfl]
    have e : gPol ts (k + 1) = .ok g.restart := by
      unfold gPol
      have hle : (policyL g.restart).length ≤ 8192 := by rcases hg.restart with h | h | h <;> rw [h] <;> decide
      rw [take_at b1 b2 hle]
      simp only [bind, Except.bind, b2]
      rcases hg.restart with h | h | h <;> rw [h] <;> rfl
    rw [e]; rfl
theorem step_stop {name : Tok} {j : JF} {seen : List (List UInt8)} {l : List (Int × Int)} (h : At ts k (ladK l ++ [(5, [125])])) (hs : Seen seen [wStop]) (hne : l ≠ []) (hw : ∀ y ∈ l, (y.1 = 1 ∨ y.1 = 2 ∨ y.1 = 3 ∨ y.1 = 10 ∨ y.1 = 12 ∨ y.1 = 15) ∧ NumB y.2) (hl : l.length ≤ 5) :
    gItems ts name k seen j = .ok ({ j with ladder := l }, k + (ladK l).length + 1) := by
  rw [At_app] at h
  obtain ⟨h, c1, c2, -⟩ := h
  cases l with
  | nil => exact absurd rfl hne
  | cons x r =>
    obtain ⟨a1, a2, h2⟩ := h
    have hlen : (ladK (x :: r)).length = 3 + 3 * r.length := by simp only [ladK, rungK, List.length_cons, List.length_append, List.length_nil, rung1K_len]; omega
    rw [hlen] at c1 c2 ⊢
    have e : k + (3 + 3 * r.length) = k + 1 + 2 + 3 * r.length := by omega
    rw [e] at c1 c2 ⊢
    rw [items_go (j' := { j with ladder := x :: r }) (k' := k + 1 + 2 + 3 * r.length) a1 a2 (by decide) (fun _ => hs.2 _ (by simp)) ?_ (by omega), if_neg (by decide), items_fin (is_at c1 c2) (List.mem_append_left _ hs.1)]
    unfold gItem
    rw [if_neg (by decide), if_neg (by decide), if_neg (by decide), if_neg (by decide), if_neg (by decide), if_neg (by decide), if_neg (by decide), rungs_list r x (k + 1) [] h2 (is_other (by rw [c2]; decide)) hw hl]
    rfl
theorem job_back (j : JF) (h : JGood j) (hA : At ts k (jobK j)) : ∃ l c, gJob ts k false = .ok ({ j with line := l, col := c }, k + (jobK j).length) := by
  have e2 : jobK j = headK j ++ (envK j.env ++ (needK j.needs ++ (readyK j ++ (restK j ++ (ladK j.ladder ++ [(5, [125])]))))) := by simp [jobK]
  rw [e2, At_app, At_app, At_app, At_app, At_app] at hA
  obtain ⟨⟨a1, a2, b1, b2, c1, c2, h1⟩, h2, h3, h4, h5, h6⟩ := hA
  refine ⟨(tkA ts (k + 1)).line, (tkA ts (k + 1)).col, ?_⟩
  have s0 : gJob ts k false = gItems ts (tkA ts (k + 1)) (k + 3) [] (job0 (tkA ts (k + 1))) := by
    unfold gJob
    rw [take_at a1 a2 (by decide)]
    simp only [bind, Except.bind]
    rw [if_neg (by rw [a2]; exact fun e => e rfl), name_at h.name.2 rfl b1 b2]
    simp only
    rw [show k + 2 = k + 1 + 1 from rfl, sign_at c1 c2]
  have s1 := step_run (name := tkA ts (k + 1)) (j := job0 (tkA ts (k + 1))) h1 h.run
  have hh : (headK j).length = 5 := rfl
  rw [hh] at h2 h3 h4 h5 h6
  have s2 := env_items (name := tkA ts (k + 1)) (seen := [wRun]) j.env (k + 5) { job0 (tkA ts (k + 1)) with run := j.run } h2 (fun p hp => (h.enve p hp).2) h.envd h.env
  have hend : gIs ts (k + 5 + (envK j.env).length + (needK j.needs).length) [44] = false := by
    have : At ts (k + 5 + (envK j.env).length + (needK j.needs).length) (readyK j ++ restK j) := At_app.2 ⟨h4, h5⟩
    refine is_no ?_
    unfold readyK at this
    cases hr : j.hasr with
    | true => rw [hr] at this; rw [this.1]; decide
    | false => rw [hr] at this; rw [this.1]; decide
  obtain ⟨seen1, w1, s3⟩ := step_need (name := tkA ts (k + 1)) (j := { job0 (tkA ts (k + 1)) with run := j.run, env := j.env }) (seen := [wRun]) h3 ⟨by simp, by decide⟩ rfl hend (fun y hy => (h.neede y hy).2) h.needd h.needs
  obtain ⟨seen2, w2, s4⟩ := step_ready (name := tkA ts (k + 1)) (j := { job0 (tkA ts (k + 1)) with run := j.run, env := j.env, needs := j.needs }) (g := j) h4 w1 ⟨rfl, rfl⟩ h.ready
  obtain ⟨seen3, w3, s5⟩ := step_rest (name := tkA ts (k + 1)) (j := { job0 (tkA ts (k + 1)) with run := j.run, env := j.env, needs := j.needs, hasr := j.hasr, ready := j.ready }) h5 w2 h
  have s6 := step_stop (name := tkA ts (k + 1)) (j := { job0 (tkA ts (k + 1)) with run := j.run, env := j.env, needs := j.needs, hasr := j.hasr, ready := j.ready, restart := j.restart, base := j.base, cap := j.cap, stable := j.stable, burst := j.burst, window := j.window }) h6 w3 h.ladder.1 h.laddere h.ladder.2
  rw [s0, s1]
  refine s2.trans (s3.trans (s4.trans (s5.trans (s6.trans ?_))))
  have hK : k + (jobK j).length = k + 5 + (envK j.env).length + (needK j.needs).length + (readyK j).length + (restK j).length + (ladK j.ladder).length + 1 := by
    rw [e2]
    simp only [List.length_append, hh, List.length_cons, List.length_nil]; omega
  rw [hK]
  simp only [job0, b2]
theorem jobs_back : ∀ (l : List JF) (k : Nat) (out : List JF), (∀ j ∈ l, JGood j) → At ts k (l.flatMap jobK ++ [(6, [])]) → (out ++ l).length ≤ 32 → ∃ l', RL l l' ∧ gJobs ts k out = .ok (out ++ l')
  | [], k, out, _, h, _ => ⟨[], trivial, by rw [gJobs, if_pos h.1, List.append_nil]⟩
  | j :: l, k, out, hg, h, hl => by
    rw [List.flatMap_cons, List.append_assoc, At_app] at h
    obtain ⟨h1, h2⟩ := h
    obtain ⟨a, b, hj⟩ := job_back j (hg j (by simp)) h1
    have hk : (tkA ts k).kind = 1 := by
      have : jobK j = (1, wJob) :: (jobK j).tail := by simp [jobK, headK]
      rw [this] at h1; exact h1.1
    have h0 : 0 < (jobK j).length := by simp [jobK, headK]
    obtain ⟨l', r1, r2⟩ := jobs_back l (k + (jobK j).length) (out ++ [{ j with line := a, col := b }]) (fun q hq => hg q (by simp [hq])) h2 (by simpa using hl)
    refine ⟨{ j with line := a, col := b } :: l', ⟨⟨a, b, rfl⟩, r1⟩, ?_⟩
    rw [gJobs, if_neg (by rw [hk]; decide), show decide (32 ≤ out.length) = false from decide_eq_false (by simp at hl; omega), hj]
    simp only
    rw [dif_pos ⟨by omega, tkA_lt (by rw [hk]; decide)⟩, r2]
    simp
end
theorem text_back (l : List JF) (hg : ∀ j ∈ l, JGood j) (hn : l.length ≤ 32) (ht : (l.flatMap jobK).length ≤ 2000) (hb : (l.flatMap jobT).length ≤ 8192) : ∃ l', RL l l' ∧ gParse (l.flatMap jobT) = .ok l' := by
  obtain ⟨ts, h1, h2⟩ := reads_jobs l hg (1, 1) 0 [] trivial (by omega)
  rw [List.append_nil, lexGo_end _ _ [] (by rw [skp_nil]; rfl)] at h2
  unfold gParse lex
  rw [if_neg (by omega), h2]
  simp only [Except.map]
  have hk : ∀ e : Tok, e.kind = 6 → e.text = [] → kts (ts ++ [e]) = l.flatMap jobK ++ [(6, [])] := fun e h6 ht => by
    simp only [kts, List.map_append] at h1 ⊢
    rw [h1]; simp [h6, ht]
  obtain ⟨l', r1, r2⟩ := jobs_back (ts := ts ++ [⟨6, [], (plc (plc (1, 1) (l.flatMap jobT)) []).1, (plc (plc (1, 1) (l.flatMap jobT)) []).2⟩]) l 0 [] hg (At_of [] rfl _ (hk _ rfl rfl) rfl) (by simpa using hn)
  exact ⟨l', r1, r2⟩
end Go.Proofs.YtkhhlmonhapmaaaGreatDoor
