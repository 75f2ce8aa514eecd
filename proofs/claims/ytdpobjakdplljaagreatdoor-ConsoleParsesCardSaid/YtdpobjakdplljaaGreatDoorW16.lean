import Derived.Test.YtdpobjakdplljaaGreatDoorW11
import Derived.Test.YtdpobjakdplljaaGreatDoorW15
import Derived.Test.YtdpobjakdplljaaGreatDoorW14
import Derived.Test.YtdpobjakdplljaaGreatDoorW8
/- The text of a job is read as its tokens, and these as the job. No program in sight. -/
set_option linter.unusedSimpArgs false
set_option linter.unusedVariables false
namespace Go.Proofs.YtdpobjakdplljaaGreatDoor
open Go.RowKit
/-! ### Numbers -/
def Xhz (v : Int) : Prop := 0 ≤ v ∧ v < 1000000000000000000
theorem XfZ (n : Nat) (h : n < 10) : XbT n = [UInt8.ofNat (48 + n)] := by rw [XbT, dif_pos h]
theorem XoT (n : Nat) (h : ¬ n < 10) : XbT n = XbT (n / 10) ++ [UInt8.ofNat (48 + n % 10)] := by
 rw [XbT, dif_neg h, XfZ (n % 10) (by omega)]
theorem Xh0 (n : Nat) (h : n < 10) : (UInt8.ofNat (48 + n)).toNat = 48 + n := by
 rw [UInt8.toNat_ofNat']; omega
theorem XqV (n : Nat) (h : n < 10) : Xbk (UInt8.ofNat (48 + n)) = true := by
 simp only [Xbk, Xh0 n h, decide_eq_true_eq]; omega
theorem XmG (n : Nat) : ∃ c r, XbT n = c :: r ∧ Xbk c = true ∧ (∀ b ∈ r, Xbk b = true) ∧ (0 < n → c.toNat ≠ 48) ∧ (r ≠ [] → 0 < n) := by
 induction n using Nat.strongRecOn with
 | _ n ih =>
  by_cases h : n < 10
  ·refine ⟨_, [], XfZ n h, XqV n h, by simp, fun h0 => ?_, fun h => absurd rfl h⟩
   rw [Xh0 n h]; omega
  ·obtain ⟨c, r, h1, h2, h3, h4, h5⟩ := ih (n / 10) (by omega)
   refine ⟨c, r ++ [UInt8.ofNat (48 + n % 10)], by rw [XoT n h, h1]; rfl, h2, fun b hb => ?_, fun _ => h4 (by omega), fun _ => by omega⟩
   rcases List.mem_append.1 hb with hb | hb
   ·exact h3 b hb
   ·rw [List.mem_singleton] at hb; subst hb; exact XqV _ (by omega)
theorem Xqn (n : Nat) (h : n < 1000000000000000000) : XqE (XbT n) := by
 obtain ⟨c, r, h1, h2, h3, h4, h5⟩ := XmG n
 have hl := Xef 17 n (by have : (10 : Nat) ^ (17 + 1) = 1000000000000000000 := by decide
                         omega)
 rw [h1] at hl ⊢
 exact ⟨h2, h3, by simp at hl; omega, fun h => h4 (h5 h)⟩
theorem XlY (l : List UInt8) (c : UInt8) : Xdm (l ++ [c]) = 10 * Xdm l + (c.toNat - 48) := by simp [Xdm, List.foldl_append]
theorem XpN (n : Nat) : Xdm (XbT n) = n := by
 induction n using Nat.strongRecOn with
 | _ n ih =>
  by_cases h : n < 10
  ·rw [XfZ n h]
   show (10 * 0 + (((UInt8.ofNat (48 + n)).toNat : Int) - 48) : Int) = n
   rw [Xh0 n h]; omega
  ·rw [XoT n h, XlY, ih (n / 10) (by omega), Xh0 _ (by omega)]; omega
theorem XiT {v : Int} (h : Xhz v) : Xdm (XbT v.toNat) = v := by rw [XpN]; have := h.1; omega
theorem XdS {v : Int} (h : Xhz v) : XqE (XbT v.toNat) := Xqn _ (by have := h.1; have := h.2; omega)
theorem Xhg {v : Int} (h : Xhz v) : (XbT v.toNat).length ≤ 18 := by
 have := XdS h
 cases hd : XbT v.toNat with
 | nil => simp
 | cons c r => rw [hd] at this; have := this.2.2.1; simp; omega
/-! ### The text -/
structure Xg0 (j : JF) : Prop where
 name : Xcy j.name ∧ j.name.length ≤ 32
 run : j.run.length ≤ 512
 env : j.env.length ≤ 16
 enve : ∀ p ∈ j.env, Xcy p.1 ∧ p.1.length ≤ 32 ∧ p.2.length ≤ 512
 envd : (j.env.map (·.1)).Nodup
 needs : j.needs.length ≤ 16
 neede : ∀ s ∈ j.needs, Xcy s ∧ s.length ≤ 32
 needd : j.needs.Nodup
 ready : (j.hasr = true ∧ XhO j.ready ∧ j.ready.length ≤ 128) ∨ (j.hasr = false ∧ j.ready = [])
 restart : j.restart = 1 ∨ j.restart = 2 ∨ j.restart = 3
 base : Xhz j.base
 cap : Xhz j.cap
 stable : Xhz j.stable
 burst : 1 ≤ j.burst ∧ j.burst ≤ 16
 window : Xhz j.window
 ladder : j.ladder ≠ [] ∧ j.ladder.length ≤ 5
 laddere : ∀ p ∈ j.ladder, (p.1 = 1 ∨ p.1 = 2 ∨ p.1 = 3 ∨ p.1 = 10 ∨ p.1 = 12 ∨ p.1 = 15) ∧ Xhz p.2
def XgM (j : JF) : List UInt8 := [106, 111, 98, 32] ++ j.name ++ [32, 123, 10, 32, 32, 114, 117, 110, 32] ++ Xc8 j.run ++ [10]
def Xn0 (p : List UInt8 × List UInt8) : List UInt8 := [32, 32, 101, 110, 118, 32] ++ p.1 ++ [32, 61, 32] ++ Xc8 p.2 ++ [10]
def Xl5 (l : List (List UInt8 × List UInt8)) : List UInt8 := l.flatMap Xn0
def Xd3 (y : List UInt8) : List UInt8 := [44, 32] ++ y
def XfG : List (List UInt8) → List UInt8
 | [] => []
 | x :: r => [32, 32, 110, 101, 101, 100, 115, 32] ++ x ++ r.flatMap Xd3
def XdQ (l : List (List UInt8)) : List UInt8 := if l = [] then [] else XfG l ++ [10]
def Xd6 (j : JF) : List UInt8 := if j.hasr then [32, 32, 114, 101, 97, 100, 121, 32, 47] ++ XbU j.ready ++ [47, 10] else []
def Xid (j : JF) : List UInt8 := [32, 32, 114, 101, 115, 116, 97, 114, 116, 32] ++ XdE j.restart ++ [10, 32, 32, 98, 97, 99, 107, 111, 102, 102, 32] ++ XbT j.base.toNat ++ [32] ++ XbT j.cap.toNat ++ [32] ++ XbT j.stable.toNat ++ [10, 32, 32, 98, 117, 114, 115, 116, 32] ++ XbT (if 0 < j.burst then j.burst else 0).toNat ++ [32] ++ XbT j.window.toNat ++ [10, 32, 32, 115, 116, 111, 112]
def Xcs (p : Int × Int) : List UInt8 := [32] ++ Xg2 p.1 ++ [32] ++ XbT p.2.toNat
def Xde (p : Int × Int) : List UInt8 := [44] ++ Xcs p
def Xjq : List (Int × Int) → List UInt8
 | [] => []
 | x :: r => Xcs x ++ r.flatMap Xde
def XeO (j : JF) : List UInt8 := XgM j ++ Xl5 j.env ++ XdQ j.needs ++ Xd6 j ++ Xid j ++ Xjq j.ladder ++ [10, 125, 10]
/-! ### Its tokens -/
abbrev KT := Int × List UInt8
def Xjh (j : JF) : List KT := [(1, XsZ), (1, j.name), (5, [123]), (1, XkN), (3, j.run)]
def Xo8 (p : List UInt8 × List UInt8) : List KT := [(1, Xif), (1, p.1), (5, [61]), (3, p.2)]
def Xmi (l : List (List UInt8 × List UInt8)) : List KT := l.flatMap Xo8
def XiZ (y : List UInt8) : List KT := [(5, [44]), (1, y)]
def XeI : List (List UInt8) → List KT
 | [] => []
 | x :: r => (1, XgD) :: (1, x) :: r.flatMap XiZ
def Xdw (j : JF) : List KT := if j.hasr then [(1, XeZ), (4, j.ready)] else []
def Xju (j : JF) : List KT := [(1, XcO), (1, XdE j.restart), (1, Xcx), (2, XbT j.base.toNat), (2, XbT j.cap.toNat), (2, XbT j.stable.toNat), (1, Xew), (2, XbT j.burst.toNat), (2, XbT j.window.toNat)]
def Xi7 (p : Int × Int) : List KT := [(1, Xg2 p.1), (2, XbT p.2.toNat)]
def Xis (p : Int × Int) : List KT := (5, [44]) :: Xi7 p
def XmJ : List (Int × Int) → List KT
 | [] => []
 | x :: r => (1, Xge) :: (Xi7 x ++ r.flatMap Xis)
def XgT (j : JF) : List KT := Xjh j ++ Xmi j.env ++ XeI j.needs ++ Xdw j ++ Xju j ++ XmJ j.ladder ++ [(5, [125])]
section
variable {D : List UInt8 → Prop} {r w : List UInt8} {c : UInt8} {ms : List KT}
def Xc5 (c : UInt8) : Prop := c.toNat = 32 ∨ c.toNat = 9 ∨ c.toNat = 10 ∨ c.toNat = 13
theorem Xa1.bl (c : UInt8) (h : Xc5 c) (hr : Xa1 D r ms) : Xa1 D (c :: r) ms := (Xa1.blank h).then hr
theorem Xa1.sg (c : UInt8) (h : c.toNat = 123 ∨ c.toNat = 125 ∨ c.toNat = 44 ∨ c.toNat = 61) (hr : Xa1 D r ms) : Xa1 D (c :: r) ((5, [c]) :: ms) := (Xa1.sign h).then hr
theorem Xa1.st (s : List UInt8) (hr : Xa1 D r ms) : Xa1 D (Xc8 s ++ r) ((3, s) :: ms) := (Xa1.str s).then hr
theorem Xa1.wd (h : Xcy w) (hc : Xcq c = false) (hr : Xa1 D (c :: r) ms) : Xa1 D (w ++ c :: r) ((1, w) :: ms) := (Xa1.word h).brk hc hr
theorem Xa1.nm (h : XqE w) (hc : Xcq c = false) (hr : Xa1 D (c :: r) ms) : Xa1 D (w ++ c :: r) ((2, w) :: ms) := (Xa1.num h).brk hc hr
theorem Xa1.pt (h : XhO w) (hr : Xa1 D r ms) : Xa1 D (47 :: (XbU w ++ 47 :: r)) ((4, w) :: ms) := by
 have := (Xa1.pat h).then hr
 simpa using this
end
theorem XbI {w : List UInt8} (h : (match w with | [] => false | c :: r => Xb7 c && r.all Xcq) = true) : Xcy w := by
 cases w with
 | nil => cases h
 | cons c r =>
  simp only [Bool.and_eq_true, List.all_eq_true] at h
  exact h
theorem Xl3 (j : JF) (h : Xg0 j) : Xa1 Any (XgM j) (Xjh j) := by
 have e : XgM j = [106, 111, 98] ++ 32 :: (j.name ++ 32 :: 123 :: 10 :: 32 :: 32 :: ([114, 117, 110] ++ 32 :: (Xc8 j.run ++ 10 :: []))) := by simp [XgM]
 rw [e]
 exact Xa1.wd (XbI (by decide)) (by decide) (.bl 32 (by unfold Xc5; decide) (.wd h.name.1 (by decide) (.bl 32 (by unfold Xc5; decide) (.sg 123 (by decide) (.bl 10 (by unfold Xc5; decide) (.bl 32 (by unfold Xc5; decide) (.bl 32 (by unfold Xc5; decide) (.wd (XbI (by decide)) (by decide) (.bl 32 (by unfold Xc5; decide) (.st j.run (.bl 10 (by unfold Xc5; decide) .nil)))))))))))
theorem Xiv : ∀ l : List (List UInt8 × List UInt8), (∀ p ∈ l, Xcy p.1) → Xa1 Any (Xl5 l) (Xmi l)
 | [], _ => Xa1.nil
 | p :: l, h => by
  have e : Xl5 (p :: l) = 32 :: 32 :: ([101, 110, 118] ++ 32 :: (p.1 ++ 32 :: 61 :: 32 :: (Xc8 p.2 ++ 10 :: Xl5 l))) := by simp [Xl5, Xn0]
  rw [e]
  exact Xa1.bl 32 (by unfold Xc5; decide) (.bl 32 (by unfold Xc5; decide) (.wd (XbI (by decide)) (by decide) (.bl 32 (by unfold Xc5; decide) (.wd (h p (by simp)) (by decide) (.bl 32 (by unfold Xc5; decide) (.sg 61 (by decide) (.bl 32 (by unfold Xc5; decide) (.st p.2 (.bl 10 (by unfold Xc5; decide) (Xiv l fun q hq => h q (by simp [hq])))))))))))
theorem XgJ : ∀ (r : List (List UInt8)) (x : List UInt8), Xcy x → (∀ y ∈ r, Xcy y) → Xa1 Any (x ++ (r.flatMap Xd3 ++ [10])) ((1, x) :: r.flatMap XiZ)
 | [], x, hx, _ => Xa1.wd hx (by decide) (.bl 10 (by unfold Xc5; decide) .nil)
 | y :: r, x, hx, h => by
  have e : x ++ ((y :: r).flatMap Xd3 ++ [10]) = x ++ 44 :: 32 :: (y ++ (r.flatMap Xd3 ++ [10])) := by simp [Xd3]
  rw [e]
  exact Xa1.wd hx (by decide) (.sg 44 (by decide) (.bl 32 (by unfold Xc5; decide) (XgJ r y (h y (by simp)) fun q hq => h q (by simp [hq]))))
theorem Xmq (l : List (List UInt8)) (h : ∀ y ∈ l, Xcy y) : Xa1 Any (XdQ l) (XeI l) := by
 cases l with
 | nil => exact Xa1.nil
 | cons x r =>
  have e : XdQ (x :: r) = 32 :: 32 :: ([110, 101, 101, 100, 115] ++ 32 :: (x ++ (r.flatMap Xd3 ++ [10]))) := by simp [XdQ, XfG]
  rw [e]
  exact Xa1.bl 32 (by unfold Xc5; decide) (.bl 32 (by unfold Xc5; decide) (.wd (XbI (by decide)) (by decide) (.bl 32 (by unfold Xc5; decide) (XgJ r x (h x (by simp)) fun q hq => h q (by simp [hq])))))
theorem Xj0 (j : JF) (h : Xg0 j) : Xa1 Any (Xd6 j) (Xdw j) := by
 unfold Xd6 Xdw
 rcases h.ready with ⟨h1, h2, h3⟩ | ⟨h1, -⟩
 ·rw [h1, if_pos rfl, if_pos rfl]
  have e : [32, 32, 114, 101, 97, 100, 121, 32, 47] ++ XbU j.ready ++ [47, 10] = 32 :: 32 :: ([114, 101, 97, 100, 121] ++ 32 :: 47 :: (XbU j.ready ++ 47 :: 10 :: [])) := by simp
  rw [e]
  exact Xa1.bl 32 (by unfold Xc5; decide) (.bl 32 (by unfold Xc5; decide) (.wd (XbI (by decide)) (by decide) (.bl 32 (by unfold Xc5; decide) (.pt h2 (.bl 10 (by unfold Xc5; decide) .nil)))))
 ·rw [h1]; exact Xa1.nil
theorem Xpn {n : Int} (h : n = 1 ∨ n = 2 ∨ n = 3) : Xcy (XdE n) := by
 rcases h with rfl | rfl | rfl <;> exact XbI (by decide)
theorem XkZ {n : Int} (h : n = 1 ∨ n = 2 ∨ n = 3 ∨ n = 10 ∨ n = 12 ∨ n = 15) : Xcy (Xg2 n) := by
 rcases h with rfl | rfl | rfl | rfl | rfl | rfl <;> exact XbI (by decide)
theorem XkT {n : Int} (h : n = 1 ∨ n = 2 ∨ n = 3 ∨ n = 10 ∨ n = 12 ∨ n = 15) : XmK (Xg2 n) = n := by
 rcases h with rfl | rfl | rfl | rfl | rfl | rfl <;> decide
theorem Xhf : ∀ (r : List (Int × Int)) (x : Int × Int), Xcy (Xg2 x.1) → Xhz x.2 → (∀ y ∈ r, Xcy (Xg2 y.1) ∧ Xhz y.2) → Xa1 Any (Xcs x ++ (r.flatMap Xde ++ [10, 125, 10])) (Xi7 x ++ (r.flatMap Xis ++ [(5, [125])]))
 | [], x, hx, hn, _ => by
  have e : Xcs x ++ ([].flatMap Xde ++ [10, 125, 10]) = 32 :: (Xg2 x.1 ++ 32 :: (XbT x.2.toNat ++ 10 :: 125 :: 10 :: [])) := by simp [Xcs]
  rw [e]
  exact Xa1.bl 32 (by unfold Xc5; decide) (.wd hx (by decide) (.bl 32 (by unfold Xc5; decide) (.nm (XdS hn) (by decide) (.bl 10 (by unfold Xc5; decide) (.sg 125 (by decide) (.bl 10 (by unfold Xc5; decide) .nil))))))
 | y :: r, x, hx, hn, h => by
  have e : Xcs x ++ ((y :: r).flatMap Xde ++ [10, 125, 10]) = 32 :: (Xg2 x.1 ++ 32 :: (XbT x.2.toNat ++ 44 :: (Xcs y ++ (r.flatMap Xde ++ [10, 125, 10])))) := by simp [Xcs, Xde]
  rw [e]
  exact Xa1.bl 32 (by unfold Xc5; decide) (.wd hx (by decide) (.bl 32 (by unfold Xc5; decide) (.nm (XdS hn) (by decide) (.sg 44 (by decide) (Xhf r y (h y (by simp)).1 (h y (by simp)).2 fun q hq => h q (by simp [hq]))))))
theorem Xlx (j : JF) (h : Xg0 j) : Xa1 Any (Xid j ++ (Xjq j.ladder ++ [10, 125, 10])) (Xju j ++ (XmJ j.ladder ++ [(5, [125])])) := by
 obtain ⟨x, r, hx⟩ := List.exists_cons_of_ne_nil h.ladder.1
 have he := h.laddere
 rw [hx] at he ⊢
 have hb : (if 0 < j.burst then j.burst else 0) = j.burst := if_pos (by have := h.burst.1; omega)
 have hbn : Xhz j.burst := ⟨by have := h.burst.1; omega, by have := h.burst.2; omega⟩
 have e : Xid j ++ (Xjq (x :: r) ++ [10, 125, 10]) = 32 :: 32 :: ([114, 101, 115, 116, 97, 114, 116] ++ 32 :: (XdE j.restart ++ 10 :: 32 :: 32 :: ([98, 97, 99, 107, 111, 102, 102] ++ 32 :: (XbT j.base.toNat ++ 32 :: (XbT j.cap.toNat ++ 32 :: (XbT j.stable.toNat ++ 10 :: 32 :: 32 :: ([98, 117, 114, 115, 116] ++ 32 :: (XbT j.burst.toNat ++ 32 :: (XbT j.window.toNat ++ 10 :: 32 :: 32 :: ([115, 116, 111, 112] ++ 32 :: (Xg2 x.1 ++ [32] ++ XbT x.2.toNat ++ (r.flatMap Xde ++ [10, 125, 10])))))))))))) := by
  simp [Xid, Xjq, Xcs, hb]
 have e2 : 32 :: (Xg2 x.1 ++ [32] ++ XbT x.2.toNat ++ (r.flatMap Xde ++ [10, 125, 10])) = Xcs x ++ (r.flatMap Xde ++ [10, 125, 10]) := by simp [Xcs]
 rw [e]
 refine Xa1.bl 32 (by unfold Xc5; decide) (.bl 32 (by unfold Xc5; decide) (.wd (XbI (by decide)) (by decide) (.bl 32 (by unfold Xc5; decide) (.wd (Xpn h.restart) (by decide) (.bl 10 (by unfold Xc5; decide) (.bl 32 (by unfold Xc5; decide) (.bl 32 (by unfold Xc5; decide) (.wd (XbI (by decide)) (by decide) (.bl 32 (by unfold Xc5; decide) (.nm (XdS h.base) (by decide) (.bl 32 (by unfold Xc5; decide) (.nm (XdS h.cap) (by decide) (.bl 32 (by unfold Xc5; decide) (.nm (XdS h.stable) (by decide) (.bl 10 (by unfold Xc5; decide) (.bl 32 (by unfold Xc5; decide) (.bl 32 (by unfold Xc5; decide) (.wd (XbI (by decide)) (by decide) (.bl 32 (by unfold Xc5; decide) (.nm (XdS hbn) (by decide) (.bl 32 (by unfold Xc5; decide) (.nm (XdS h.window) (by decide) (.bl 10 (by unfold Xc5; decide) (.bl 32 (by unfold Xc5; decide) (.bl 32 (by unfold Xc5; decide) (.wd (XbI (by decide)) (by decide) ?_))))))))))))))))))))))))))
 rw [e2]
 have := Xhf r x (XkZ (he x (by simp)).1) (he x (by simp)).2 fun y hy => ⟨XkZ (he y (by simp [hy])).1, (he y (by simp [hy])).2⟩
 rw [← List.append_assoc (Xi7 x)] at this
 exact this
theorem XnN (j : JF) (h : Xg0 j) : Xa1 Any (XeO j) (XgT j) := by
 have h1 := (Xl3 j h).then ((Xiv j.env fun p hp => (h.enve p hp).1).then ((Xmq j.needs fun y hy => (h.neede y hy).1).then ((Xj0 j h).then (Xlx j h))))
 have e1 : XeO j = XgM j ++ (Xl5 j.env ++ (XdQ j.needs ++ (Xd6 j ++ (Xid j ++ (Xjq j.ladder ++ [10, 125, 10]))))) := by simp [XeO]
 have e2 : XgT j = Xjh j ++ (Xmi j.env ++ (XeI j.needs ++ (Xdw j ++ (Xju j ++ (XmJ j.ladder ++ [(5, [125])]))))) := by simp [XgT]
 rw [e1, e2]
 exact h1
theorem Xhj : ∀ l : List JF, (∀ j ∈ l, Xg0 j) → Xa1 Any (l.flatMap XeO) (l.flatMap XgT)
 | [], _ => Xa1.nil
 | j :: l, h => by
  rw [List.flatMap_cons, List.flatMap_cons]
  exact (XnN j (h j (by simp))).then (Xhj l fun q hq => h q (by simp [hq]))
open Go.RowKit
def At (ts : List Tok) : Nat → List KT → Prop
 | _, [] => True
 | k, x :: xs => (tkA ts k).kind = x.1 ∧ (tkA ts k).text = x.2 ∧ At ts (k + 1) xs
theorem XeY {ts : List Tok} : ∀ {k : Nat} {xs ys : List KT}, At ts k (xs ++ ys) ↔ At ts k xs ∧ At ts (k + xs.length) ys
 | k, [], ys => by simp [At]
 | k, x :: xs, ys => by
  simp only [Xva, At, XeY, Xu2, and_assoc]
  rw [show k + 1 + xs.length = k + (xs.length + 1) from by omega]
theorem XtJ {ts : List Tok} : ∀ {k : Nat} {ks : List KT} (pre : List Tok), pre.length = k → ∀ post : List Tok, kts post = ks → ts = pre ++ post → At ts k ks
 | k, [], _, _, _, _, _ => trivial
 | k, x :: xs, pre, hk, post, hp, hts => by
  cases post with
  | nil => cases hp
  | cons t post =>
   simp only [kts, Xu4, List.cons.injEq] at hp
   have e : tkA ts k = t := by
    unfold tkA
    rw [hts, List.getD_eq_getElem?_getD, List.getElem?_append_right (by omega), ← hk]; simp
   refine ⟨by rw [e, ← hp.1], by rw [e, ← hp.1], XtJ (pre ++ [t]) (by simp; omega) post hp.2 (by rw [hts]; simp)⟩
theorem XsT (n : Int) : (Xg2 n).length ≤ 4 := by
 unfold Xg2
 cases h : XcW.find? (fun s => XrQ s == n) with
 | none => simp
 | some s =>
  have := List.mem_of_find?_eq_some h
  simp only [XcW, List.mem_cons, List.not_mem_nil, or_false] at this
  rcases this with rfl | rfl | rfl | rfl | rfl | rfl <;> simp
section
variable {ts : List Tok} {k : Nat}
theorem XdW {kind : Int} {text : List UInt8} {most : Nat} (h1 : (tkA ts k).kind = kind) (h2 : (tkA ts k).text = text) (h : text.length ≤ most) : Xbi ts k kind most = .ok (tkA ts k) := by
 unfold Xbi
 rw [if_neg (fun e => e h1), if_neg (by rw [h2]; omega)]
theorem Xpr {s : List UInt8} (h1 : (tkA ts k).kind = 5) (h2 : (tkA ts k).text = s) : gIs ts k s = true := by simp [gIs, h1, h2]
theorem XtD {s : List UInt8} (h1 : (tkA ts k).kind ≠ 5) : gIs ts k s = false := by simp [gIs, h1]
theorem XpV {s : List UInt8} (h1 : (tkA ts k).text ≠ s) : gIs ts k s = false := by simp [gIs, h1]
theorem Xo5 {s : List UInt8} (h1 : (tkA ts k).kind = 5) (h2 : (tkA ts k).text = s) : Xb6 ts k s = .ok () := by simp [Xb6, Xpr h1 h2]
theorem Xhq {v : Int} (hv : Xhz v) (h1 : (tkA ts k).kind = 2) (h2 : (tkA ts k).text = XbT v.toNat) : Xc6 ts k = .ok v := by
 unfold Xc6
 rw [XdW h1 h2 (by have := Xhg hv; omega)]
 simp only [Except.map, h2, XiT hv]
theorem XjH {w : List UInt8} {full : Bool} (hw : w.length ≤ 32) (hf : full = false) (h1 : (tkA ts k).kind = 1) (h2 : (tkA ts k).text = w) : Xes ts k full = .ok (tkA ts k) := by
 unfold Xes
 rw [XdW h1 h2 hw, hf]
 rfl
theorem Xdg {name : Tok} {seen : List (List UInt8)} {j j' : JF} {w : List UInt8} {k' : Nat} (h1 : (tkA ts k).kind = 1) (h2 : (tkA ts k).text = w) (hw : w ∈ items) (hs : w ≠ Xif → w ∉ seen) (hi : XbX ts (k + 1) w j = .ok (j', k')) (hlt : k < k') : Xbj ts name k seen j = Xbj ts name k' (if w = Xif then seen else seen ++ [w]) j' := by
 rw [Xbj, if_neg (by rw [XtD (by rw [h1]; decide)]; decide), if_neg (by rw [h1, h2]; simpa using hw), if_neg (by rw [h2]; rintro ⟨a, b⟩; exact hs a (by simpa using b)), h2, hi]
 simp only
 rw [dif_pos ⟨hlt, Xk2 (by rw [h1]; decide)⟩]
theorem XmO {name : Tok} {seen : List (List UInt8)} {j : JF} (h : gIs ts k [125] = true) (hs : XkN ∈ seen) : Xbj ts name k seen j = .ok (j, k + 1) := by
 rw [Xbj, if_pos h, if_pos (by simpa using hs)]
theorem XiA {name : Tok} {seen : List (List UInt8)} : ∀ (l : List (List UInt8 × List UInt8)) (k : Nat) (j : JF), At ts k (Xmi l) → (∀ p ∈ l, p.1.length ≤ 32 ∧ p.2.length ≤ 512) → ((j.env ++ l).map (·.1)).Nodup → (j.env ++ l).length ≤ 16 → Xbj ts name k seen j = Xbj ts name (k + (Xmi l).length) seen { j with env := j.env ++ l }
 | [], k, j, _, _, _, _ => by simp [Xmi]
 | p :: l, k, j, h, hp, hd, hl => by
  obtain ⟨a1, a2, b1, b2, c1, c2, d1, d2, h5⟩ := h
  have hpp := hp p (by simp)
  have hi : XbX ts (k + 1) Xif j = .ok ({ j with env := j.env ++ [p] }, k + 1 + 3) := by
   unfold XbX
   rw [if_neg (by decide), if_pos rfl]
   have e : Xio ts (k + 1) j.env = .ok p := by
    unfold Xio
    rw [XjH hpp.1 (by simp at hl; exact decide_eq_false (by omega)) b1 b2]
    simp only [bind, Except.bind]
    have hn : j.env.any (fun x => x.1 == (tkA ts (k + 1)).text) = false := by
     rw [b2, List.any_eq_false]
     intro x hx he
     rw [List.map_append, Xu4, List.nodup_append] at hd
     exact hd.2.2 x.1 (List.mem_map_of_mem hx) p.1 (by simp) (by simpa using he)
    rw [hn]
    simp only [Bool.false_eq_true, if_false]
    rw [Xo5 c1 c2]
    simp only
    rw [XdW d1 d2 hpp.2]
    simp only [b2, d2]
   rw [e]; rfl
  rw [Xdg a1 a2 (by decide) (fun h => absurd rfl h) hi (by omega), if_pos rfl, show k + 1 + 3 = k + 1 + 1 + 1 + 1 from rfl, XiA l (k + 1 + 1 + 1 + 1) { j with env := j.env ++ [p] } h5 (fun q hq => hp q (by simp [hq])) (by simpa using hd) (by simpa using hl)]
  simp only [List.append_assoc, Xva, Xu9, Xmi, List.flatMap_cons, Xvb]
  rw [show (Xo8 p).length = 4 from rfl, show k + 1 + 1 + 1 + 1 + (List.flatMap Xo8 l).length = k + (4 + (List.flatMap Xo8 l).length) from by omega]
theorem Xjs : ∀ (r : List (List UInt8)) (x : List UInt8) (k : Nat) (out : List (List UInt8)), At ts k ((1, x) :: r.flatMap XiZ) → gIs ts (k + 1 + 2 * r.length) [44] = false → (∀ y ∈ x :: r, y.length ≤ 32) → (out ++ x :: r).Nodup → (out ++ x :: r).length ≤ 16 → XbV (Xdc ts) 1 ts k out = .ok (out ++ x :: r, k + 1 + 2 * r.length)
 | r, x, k, out, h, hc, hw, hd, hl => by
  obtain ⟨a1, a2, h2⟩ := h
  have e : Xdc ts k out = .ok x := by
   unfold Xdc
   rw [XjH (hw x (by simp)) (by simp at hl; exact decide_eq_false (by omega)) a1 a2]
   simp only [bind, Except.bind]
   have hn : out.contains (tkA ts k).text = false := by
    rw [a2]
    cases hcn : out.contains x with
    | false => rfl
    | true =>
     exfalso
     rw [List.nodup_append] at hd
     exact hd.2.2 x (by simpa using hcn) x (by simp) rfl
   rw [hn]
   simp only [Bool.false_eq_true, if_false, a2]
  rw [XbV, e]
  simp only
  cases r with
  | nil =>
   rw [dif_neg (fun hh => by rw [show k + 1 = k + 1 + 2 * ([] : List (List UInt8)).length from rfl, hc] at hh; cases hh.2)]
   rfl
  | cons y r =>
   obtain ⟨b1, b2, h3⟩ := h2
   rw [dif_pos ⟨Xk2 (by rw [b1]; decide), Xpr b1 b2⟩]
   have hlen : k + 1 + 2 * (y :: r).length = k + 1 + 1 + 1 + 2 * r.length := by simp only [Xu2]; omega
   rw [hlen] at hc ⊢
   rw [Xjs r y (k + 1 + 1) (out ++ [x]) h3 hc (fun q hq => hw q (by simp at hq ⊢; right; exact hq)) (by simpa using hd) (by simpa using hl)]
   simp
theorem Xhk : ∀ (r : List (Int × Int)) (x : Int × Int) (k : Nat) (out : List (Int × Int)), At ts k (Xi7 x ++ r.flatMap Xis) → gIs ts (k + 2 + 3 * r.length) [44] = false → (∀ y ∈ x :: r, (y.1 = 1 ∨ y.1 = 2 ∨ y.1 = 3 ∨ y.1 = 10 ∨ y.1 = 12 ∨ y.1 = 15) ∧ Xhz y.2) → (out ++ x :: r).length ≤ 5 → XbV (Xdd ts) 2 ts k out = .ok (out ++ x :: r, k + 2 + 3 * r.length)
 | r, x, k, out, h, hc, hw, hl => by
  obtain ⟨a1, a2, b1, b2, h2⟩ := h
  obtain ⟨hs, hn⟩ := hw x (by simp)
  have hne : XmK (Xg2 x.1) ≠ 0 := by rw [XkT hs]; omega
  have e : Xdd ts k out = .ok x := by
   unfold Xdd
   have := XsT x.1
   rw [XdW a1 a2 (show (Xg2 x.1).length ≤ 8192 by omega)]
   simp only [bind, Except.bind]
   rw [if_neg (by simp at hl; omega), a2, if_neg hne, Xhq hn b1 b2, XkT hs]
  rw [XbV, e]
  simp only
  cases r with
  | nil =>
   rw [dif_neg (fun hh => by rw [show k + 2 = k + 2 + 3 * ([] : List (Int × Int)).length from rfl, hc] at hh; cases hh.2)]
   rfl
  | cons y r =>
   obtain ⟨c1, c2, h3⟩ := h2
   rw [dif_pos ⟨Xk2 (by rw [show k + 2 = k + 1 + 1 from rfl, c1]; decide), Xpr c1 c2⟩]
   have hlen : k + 2 + 3 * (y :: r).length = k + 2 + 1 + 2 + 3 * r.length := by simp only [Xu2]; omega
   rw [hlen] at hc ⊢
   rw [Xhk r y (k + 2 + 1) (out ++ [x]) h3 hc (fun q hq => hw q (by simp at hq ⊢; right; exact hq)) (by simpa using hl)]
   simp
end
open Go.RowKit
structure EF where
 kind : Int
 job : List UInt8
 ok : Bool
 code : Int
 data : List UInt8
 time : Int
 client : Int
 num : Int
def EF.cells (e : EF) : List AV := [.x (.int .i64 e.kind), .x (.string (bs e.job)), .x (.bool e.ok), .x (.int .i64 e.code), .sq e.data.length (u8a e.data), .x (.int .u64 e.time), .x (.int .i64 e.client), .x (.int .i64 e.num)]
def va (l : List EF) : List AV := l.flatMap EF.cells
@[simp] theorem XuU (l : List EF) : (va l).length = l.length * 8 := by
 induction l with
 | nil => rfl
 | cons j l ih => simp only [va, List.flatMap_cons, Xvb, Xu2] at ih ⊢; rw [ih]; simp [EF.cells]; omega
theorem XoN (l m : List EF) : va (l ++ m) = va l ++ va m := by simp [va]
theorem XsG (l : List EF) (k : Nat) (h : k < l.length) : (va l).drop (k * 8) = l[k].cells ++ va (l.drop (k + 1)) := by
 induction l generalizing k with
 | nil => simp at h
 | cons j l ih =>
  cases k with
  | zero => simp [va]
  | succ k =>
   simp only [va, List.flatMap_cons, List.drop_succ_cons, List.getElem_cons_succ] at ih ⊢
   rw [show (k + 1) * 8 = j.cells.length + k * 8 from by simp [EF.cells]; omega, ← List.drop_drop, List.drop_append_length]
   exact ih k (by simpa using h)
theorem XfQ (l : List EF) (k : Nat) (h : k < l.length) : (va l).drop (k * 8) = .x (.int .i64 l[k].kind) :: .x (.string (bs l[k].job)) :: .x (.bool l[k].ok) :: .x (.int .i64 l[k].code) :: .sq l[k].data.length (u8a l[k].data) :: .x (.int .u64 l[k].time) :: .x (.int .i64 l[k].client) :: .x (.int .i64 l[k].num) :: va (l.drop (k + 1)) := XsG l k h
def Xch (cur : List UInt8) : List UInt8 → List (List UInt8)
 | [] => if cur = [] then [] else [cur]
 | c :: r => if c.toNat = 10 then cur :: Xch [] r else Xch (cur ++ [c]) r
def Xb4 (s : List UInt8) : List (List UInt8) := Xch [] s
theorem Xfu : ∀ (l cur : List UInt8), (Xch cur l).length ≤ l.length + 1
 | [], cur => by unfold Xch; split <;> simp
 | c :: r, cur => by
  unfold Xch
  split
  ·have := Xfu r []; simp; omega
  ·have := Xfu r (cur ++ [c]); simp; omega
theorem XgC : ∀ (l cur : List UInt8), ∀ x ∈ Xch cur l, x.length ≤ cur.length + l.length
 | [], cur => by unfold Xch; split <;> simp
 | c :: r, cur => by
  unfold Xch
  split
  ·intro x hx
   rcases List.mem_cons.1 hx with rfl | hx
   ·omega
   ·have := XgC r [] x hx; simp at this ⊢; omega
  ·intro x hx
   have := XgC r (cur ++ [c]) x hx
   simp at this ⊢; omega
def XbF : List (List UInt8) := [[115, 112, 97, 119, 110, 101, 100], [101, 120, 105, 116], [111, 117, 116, 112, 117, 116], [116, 105, 99, 107], [100, 114, 97, 119], [115, 116, 97, 114, 116], [115, 116, 111, 112], [114, 101, 115, 116, 97, 114, 116], [108, 111, 97, 100], [115, 104, 117, 116, 100, 111, 119, 110], [111, 112, 101, 110], [98, 121, 116, 101, 115], [99, 108, 111, 115, 101], [100, 114, 97, 105, 110]]
def Xa5 : List (List UInt8) := [[78, 75], [78, 67], [78, 68], [84], [84], [78], [78], [78], [68], [], [76], [76, 68], [76], [76, 77]]
def wOk : List UInt8 := [111, 107]
def Xdb : List UInt8 := [102, 97, 105, 108, 101, 100]
def Xnc (w : List UInt8) : Option Nat := if w ∈ XbF then some (XbF.idxOf w) else none
def XeP (e : EF) (f : UInt8) (t : Tok) : Option EF :=
 if f.toNat = 78 then (if t.kind = 1 then some { e with job := t.text } else none)
 else if f.toNat = 75 then (if t.kind = 1 ∧ (t.text = wOk ∨ t.text = Xdb) then some { e with ok := decide (t.text = wOk) } else none)
 else if f.toNat = 68 then (if t.kind = 3 then some { e with data := t.text } else none)
 else if t.kind ≠ 2 then none
 else if f.toNat = 84 then some { e with time := Xdm t.text }
 else if 999999999 < Xdm t.text then none
 else if f.toNat = 67 then some { e with code := Xdm t.text }
 else if f.toNat = 76 then some { e with client := Xdm t.text }
 else some { e with num := Xdm t.text }
def XdM (e : EF) : List UInt8 → List Tok → Option EF
 | f :: fs, t :: ts => (XeP e f t).bind fun e => XdM e fs ts
 | _, _ => some e
def ev0 (k : Int) : EF := ⟨k, [], false, 0, [], 0, 0, 0⟩
def Xcd (l : List Tok) : Option EF := match l with
 | [] => none
 | t :: r => if t.kind ≠ 1 then none else match Xnc t.text with
  | none => none
  | some k => if r.length ≠ (Xa5.getD k []).length then none else XdM (ev0 (k + 1 : Nat)) (Xa5.getD k []) r
def cGo : List (List UInt8) → Nat → List EF → List EF × Nat × Int
 | [], n, out => (out, n, 0)
 | x :: r, n, out => match lex x with
  | .error _ => ([], n, 320)
  | .ok ts => if ts.length ≤ 1 then cGo r (n + 1) out else match Xcd ts.dropLast with
   | none => ([], n, 320)
   | some e => if 1000 ≤ out.length then ([], n, 1) else cGo r (n + 1) (out ++ [e])
def XcP (s : List UInt8) : List EF × Nat × Int := if 65536 < s.length then ([], 0, 1) else cGo (Xb4 s) 0 []
def XtR (x : List EF × Nat × Int) : AV := .tup [.sq x.1.length (va x.1), .x (.int .i64 x.2.1), .x (.int .i64 x.2.2)]
end Go.Proofs.YtdpobjakdplljaaGreatDoor
