import Derived.Test.YtdcjhndcklofoaaW22
import Derived.Test.YtdcjhndcklofoaaW12
/- The order and the cycle: what follows of them. No program in sight. -/
namespace Go.Proofs.Ytdcjhndcklofoaa
open Go.RowKit
set_option linter.unusedSimpArgs false
set_option linter.unusedVariables false
theorem fst_eq {l : List JA} {d : List Int} {i : Nat} (h : fst l d = some i) : i < l.length ∧ rdy l d i = true ∧ ∀ k, k < i → rdy l d k = false := by
  unfold fst at h
  rw [List.find?_range_eq_some] at h
  obtain ⟨h1, h2, h3⟩ := h
  exact ⟨List.mem_range.1 h2, h1, fun k hk => by simpa using h3 k hk⟩
theorem fst_no {l : List JA} {d : List Int} (h : fst l d = none) (k : Nat) (hk : k < l.length) : rdy l d k = false := by
  unfold fst at h
  rw [List.find?_eq_none] at h
  simpa using h k (List.mem_range.2 hk)
theorem ordF_done (l : List JA) : ∀ (n : Nat) (d : List Int), Done l d → n = l.length - d.length → Done l (ordF l n d) ∧ fst l (ordF l n d) = none
  | 0, d, h, hn => by
    refine ⟨h, ?_⟩
    show fst l d = none
    cases hf : fst l d with
    | none => rfl
    | some i =>
      obtain ⟨h1, h2, h3⟩ := fst_eq hf
      have := (h.snoc h1 h2 h3).le
      simp at this
      omega
  | n + 1, d, h, hn => by
    unfold ordF
    cases hf : fst l d with
    | none => exact ⟨h, hf⟩
    | some i =>
      obtain ⟨h1, h2, h3⟩ := fst_eq hf
      exact ordF_done l n _ (h.snoc h1 h2 h3) (by simp; omega)
theorem ord_done (l : List JA) : Done l (ord l) ∧ fst l (ord l) = none := ordF_done l _ _ (Done.nil l) (by simp)
theorem ordF_pre (l : List JA) : ∀ (n : Nat) (d : List Int), ∃ r, ordF l n d = d ++ r
  | 0, d => ⟨[], by simp [ordF]⟩
  | n + 1, d => by
    unfold ordF
    cases hf : fst l d with
    | none => exact ⟨[], by simp⟩
    | some i =>
      obtain ⟨r, hr⟩ := ordF_pre l n (d ++ [(i : Int)])
      exact ⟨(i : Int) :: r, by simp [hr]⟩
theorem ordF_at (l : List JA) : ∀ (n : Nat) (d r : List Int) (k : Nat) (h : k < r.length), ordF l n d = r → d.length ≤ k → ∃ i : Nat, r[k] = i ∧ fst l (r.take k) = some i
  | 0, d, r, k, h, hr, hk => by simp only [ordF] at hr; subst hr; omega
  | n + 1, d, r, k, h, hr, hk => by
    simp only [ordF] at hr
    cases hf : fst l d with
    | none => rw [hf] at hr; simp only at hr; subst hr; omega
    | some i =>
      simp only [hf] at hr
      by_cases hd : d.length = k
      · subst hd
        obtain ⟨q, hq⟩ := ordF_pre l n (d ++ [(i : Int)])
        rw [hr] at hq
        subst hq
        exact ⟨i, by simp, by simp [hf]⟩
      · exact ordF_at l n _ r k h hr (by simp; omega)
theorem ord_at (l : List JA) (k : Nat) (h : k < (ord l).length) : ∃ i : Nat, (ord l)[k] = i ∧ fst l ((ord l).take k) = some i := ordF_at l _ _ _ k h rfl (Nat.zero_le _)
theorem ord_lt (l : List JA) (k : Nat) (h : k < (ord l).length) : 0 ≤ (ord l)[k] ∧ (ord l)[k] < (l.length : Int) := (ord_done l).1.lt _ (List.getElem_mem h)
theorem ord_le (l : List JA) : (ord l).length ≤ l.length := (ord_done l).1.le
/-- Each comes after what it needs. -/
theorem ord_right (l : List JA) (k : Nat) (h : k < (ord l).length) (n : Int) (hn : n ∈ nds l (ord l)[k]) : n ∈ (ord l).take k := by
  obtain ⟨i, h1, h2⟩ := ord_at l k h
  obtain ⟨-, h3, -⟩ := fst_eq h2
  unfold rdy at h3
  rw [Bool.and_eq_true, List.all_eq_true] at h3
  rw [h1] at hn
  simpa using h3.2 n hn
/-- A list that has all the numbers below n. -/
theorem full : ∀ (n : Nat) (d : List Int), d.Nodup → (∀ x ∈ d, 0 ≤ x ∧ x < (n : Int)) → d.length = n → ∀ k : Nat, k < n → (k : Int) ∈ d := by
  intro n d hd hl hn k hk
  apply Classical.byContradiction
  intro hc
  have := pigeon n ((k : Int) :: d) (List.nodup_cons.2 ⟨hc, hd⟩) (by
    intro x hx
    rcases List.mem_cons.1 hx with rfl | hx
    · omega
    · exact hl x hx)
  simp at this
  omega
/-- One that is not in the order has a need that is not. -/
theorem ord_stuck (l : List JA) (k : Nat) (h : k < l.length) (hk : (k : Int) ∉ ord l) : ∃ n ∈ nds l k, n ∉ ord l := by
  have h1 := fst_no (ord_done l).2 k h
  unfold rdy at h1
  rw [Bool.and_eq_false_iff] at h1
  rcases h1 with h1 | h1
  · simp at h1; exact absurd h1 hk
  · rw [List.all_eq_false] at h1
    obtain ⟨n, hn, h2⟩ := h1
    exact ⟨n, hn, by simpa using h2⟩

/-! ### The cycle -/

/-- The first need that is not in the order. -/
def nxt (l : List JA) (a : Int) : Option Int := (nds l a).find? fun k => !(ord l).contains k
def cycF (l : List JA) : Nat → List Int → Int → List Int
  | 0, _, _ => []
  | n + 1, path, a => match path.findIdx? (· == a) with
    | some k => path.drop k
    | none => match nxt l a with
      | none => []
      | some b => cycF l n (path ++ [a]) b
def at0 (l : List JA) : Option Nat := (mks l (ord l)).findIdx? (· == false)
def cyc (l : List JA) : List Int := match at0 l with
  | none => []
  | some a => cycF l (l.length + 1) [] (a : Int)
/-- On the way: the path so far, and where it goes on. -/
structure Way (l : List JA) (p : List Int) (a : Int) : Prop where
  nodup : p.Nodup
  lt : ∀ x ∈ p, 0 ≤ x ∧ x < (l.length : Int)
  alt : 0 ≤ a ∧ a < (l.length : Int)
  free : a ∉ ord l
  frees : ∀ x ∈ p, x ∉ ord l
  chain : ∀ k, (h : k < p.length) → (p ++ [a])[k + 1]'(by simp; omega) ∈ nds l p[k]
  cyc : cycF l (l.length + 1 - p.length) p a = cyc l
theorem Way.le {l : List JA} {p : List Int} {a : Int} (h : Way l p a) : p.length ≤ l.length := pigeon _ p h.nodup h.lt
theorem at0_some {l : List JA} {a : Nat} (h : at0 l = some a) : a < l.length ∧ (a : Int) ∉ ord l := by
  unfold at0 at h
  obtain ⟨h1, h2, -⟩ := List.findIdx?_eq_some_iff_getElem.1 h
  rw [mks_get] at h2
  rw [mks_len] at h1
  exact ⟨h1, by simpa using h2⟩
theorem at0_none {l : List JA} (h : at0 l = none) (a : Nat) (ha : a < l.length) : (a : Int) ∈ ord l := by
  unfold at0 at h
  rw [List.findIdx?_eq_none_iff] at h
  have hl : a < (mks l (ord l)).length := by rw [mks_len]; exact ha
  have := h _ (List.getElem_mem hl)
  rw [mks_get] at this
  simpa using this
theorem Way.first {l : List JA} {a : Nat} (h : at0 l = some a) : Way l [] (a : Int) where
  nodup := List.nodup_nil
  lt := by simp
  alt := by have := (at0_some h).1; omega
  free := (at0_some h).2
  frees := by simp
  chain := fun k h => absurd h (Nat.not_lt_zero k)
  cyc := by unfold _root_.Go.Proofs.Ytdcjhndcklofoaa.cyc; rw [h]; rfl
theorem Way.nxt {l : List JA} {p : List Int} {a : Int} (h : Way l p a) : ∃ b, nxt l a = some b ∧ b ∈ nds l a ∧ b ∉ ord l := by
  have ha := h.alt
  obtain ⟨k, rfl⟩ : ∃ k : Nat, a = k := ⟨a.toNat, by omega⟩
  obtain ⟨n, hn, h2⟩ := ord_stuck l k (by omega) h.free
  unfold _root_.Go.Proofs.Ytdcjhndcklofoaa.nxt
  cases hf : (nds l (k : Int)).find? fun k => !(ord l).contains k with
  | none =>
    rw [List.find?_eq_none] at hf
    have := hf n hn
    simp at this
    exact absurd this h2
  | some b =>
    refine ⟨b, rfl, List.mem_of_find?_eq_some hf, ?_⟩
    have := List.find?_some hf
    simpa using this
theorem Way.step {l : List JA} {p : List Int} {a b : Int} (h : Way l p a) (hp : a ∉ p) (hb : _root_.Go.Proofs.Ytdcjhndcklofoaa.nxt l a = some b) : Way l (p ++ [a]) b := by
  have hnd : (p ++ [a]).Nodup := by
    rw [List.nodup_append]
    refine ⟨h.nodup, by simp, fun x hx y hy => ?_⟩
    rw [List.mem_singleton] at hy
    subst hy
    intro e; subst e; exact hp hx
  have hlt : ∀ x ∈ p ++ [a], 0 ≤ x ∧ x < (l.length : Int) := by
    intro x hx
    rcases List.mem_append.1 hx with hx | hx
    · exact h.lt x hx
    · rw [List.mem_singleton] at hx; subst hx; exact h.alt
  have hle := pigeon _ _ hnd hlt
  simp only [List.length_append, List.length_cons, List.length_nil] at hle
  obtain ⟨b', hb', hm, hf⟩ := h.nxt
  rw [hb] at hb'; cases hb'
  refine ⟨hnd, hlt, nds_lt l a b hm, hf, ?_, ?_, ?_⟩
  · intro x hx
    rcases List.mem_append.1 hx with hx | hx
    · exact h.frees x hx
    · rw [List.mem_singleton] at hx; subst hx; exact h.free
  · intro k hk
    simp only [List.length_append, List.length_cons, List.length_nil] at hk
    by_cases e : k = p.length
    · subst e; simpa using hm
    · have hk2 : k < p.length := by omega
      have hk3 : k + 1 < (p ++ [a]).length := by rw [List.length_append, List.length_singleton]; omega
      have := h.chain k hk2
      rw [List.getElem_append_left hk3, List.getElem_append_left hk2]
      exact this
  · have hc := h.cyc
    rw [show l.length + 1 - p.length = (l.length + 1 - (p ++ [a]).length) + 1 from by simp; omega] at hc
    rw [← hc]
    rw [cycF]
    have : p.findIdx? (· == a) = none := by
      rw [List.findIdx?_eq_none_iff]
      intro x hx
      rw [beq_eq_false_iff_ne]
      intro e; subst e; exact hp hx
    simp only [this, hb]
theorem Way.end_ {l : List JA} {p : List Int} {a : Int} (h : Way l p a) {k : Nat} (hk : p.findIdx? (· == a) = some k) : p.drop k = _root_.Go.Proofs.Ytdcjhndcklofoaa.cyc l := by
  have hle := h.le
  rw [← h.cyc, show l.length + 1 - p.length = (l.length - p.length) + 1 from by omega, cycF]
  simp only [hk]
theorem pigeon_all_nat : ∀ (n : Nat) (d : List Int), (∀ k : Nat, k < n → (k : Int) ∈ d) → n ≤ d.length
  | 0, d, _ => Nat.zero_le _
  | n + 1, d, h => by
    have hm : (n : Int) ∈ d := h n (Nat.lt_succ_self n)
    have := pigeon_all_nat n (d.erase n) fun k hk => (List.mem_erase_of_ne (by omega)).2 (h k (by omega))
    rw [List.length_erase_of_mem hm] at this
    have : 0 < d.length := List.length_pos_of_mem hm
    omega
theorem pigeon_all (l : List JA) (d : List Int) (h : ∀ k : Nat, k < l.length → (k : Int) ∈ d) : l.length ≤ d.length := pigeon_all_nat _ d h
/-- What a cycle is: no number twice, each needs the next one, and the last one the first. -/
structure Ring (l : List JA) (c : List Int) : Prop where
  nodup : c.Nodup
  lt : ∀ x ∈ c, 0 ≤ x ∧ x < (l.length : Int)
  pos : 0 < c.length
  chain : ∀ k, (h : k < c.length) → c[(k + 1) % c.length]'(Nat.mod_lt _ (by omega)) ∈ nds l c[k]
theorem Way.ring {l : List JA} {p : List Int} {a : Int} (h : Way l p a) {k : Nat} (hk : p.findIdx? (· == a) = some k) : Ring l (p.drop k) := by
  obtain ⟨h1, h2, -⟩ := List.findIdx?_eq_some_iff_getElem.1 hk
  rw [beq_iff_eq] at h2
  refine ⟨h.nodup.sublist (List.drop_sublist k p), fun x hx => h.lt x (List.mem_of_mem_drop hx), by simp; omega, fun j hj => ?_⟩
  have hj2 : k + j < p.length := by rw [List.length_drop] at hj; omega
  have hc := h.chain (k + j) hj2
  rw [List.getElem_drop]
  by_cases hl : k + j + 1 < p.length
  · rw [List.getElem_append_left (by omega)] at hc
    have e : (j + 1) % (p.drop k).length = j + 1 := Nat.mod_eq_of_lt (by rw [List.length_drop]; omega)
    have : (p.drop k)[(j + 1) % (p.drop k).length]'(Nat.mod_lt _ (by simp; omega)) = p[k + j + 1] := by
      simp only [e, List.getElem_drop]
      congr 1
    rw [this]; exact hc
  · have e : (j + 1) % (p.drop k).length = 0 := by
      have : j + 1 = (p.drop k).length := by simp; omega
      rw [this, Nat.mod_self]
    have : (p.drop k)[(j + 1) % (p.drop k).length]'(Nat.mod_lt _ (by simp; omega)) = a := by
      simp only [e, List.getElem_drop, Nat.add_zero]; exact h2
    rw [this]
    have e2 : (p ++ [a])[k + j + 1]'(by simp; omega) = a := by
      rw [List.getElem_append_right (by omega)]; simp
    rw [e2] at hc; exact hc
theorem way_ends (l : List JA) : ∀ (n : Nat) (p : List Int) (a : Int), Way l p a → n = l.length + 1 - p.length → Ring l (cyc l)
  | 0, p, a, h, hn => by have := h.le; omega
  | n + 1, p, a, h, hn => by
    cases hk : p.findIdx? (· == a) with
    | some k => rw [← h.end_ hk]; exact h.ring hk
    | none =>
      obtain ⟨b, hb, -⟩ := h.nxt
      have hp : a ∉ p := by
        rw [List.findIdx?_eq_none_iff] at hk
        intro hm; simpa using hk a hm
      exact way_ends l n _ b (h.step hp hb) (by simp; omega)
/-- The cycle is empty, if all are in the order; else it is one. -/
theorem cyc_all (l : List JA) (h : (ord l).length = l.length) : cyc l = [] := by
  unfold cyc
  cases ha : at0 l with
  | none => rfl
  | some a =>
    obtain ⟨h1, h2⟩ := at0_some ha
    exact absurd (full l.length (ord l) (ord_done l).1.nodup (ord_done l).1.lt h a h1) h2
theorem cyc_some (l : List JA) (h : (ord l).length ≠ l.length) : Ring l (cyc l) := by
  cases ha : at0 l with
  | none =>
    exfalso
    apply h
    have hle := ord_le l
    have := pigeon_all l (ord l) (fun k hk => at0_none ha k hk)
    omega
  | some a => exact way_ends l _ _ _ (Way.first ha) rfl
theorem cyc_lt (l : List JA) (x : Int) (h : x ∈ cyc l) : 0 ≤ x ∧ x < (l.length : Int) := by
  by_cases e : (ord l).length = l.length
  · rw [cyc_all l e] at h; cases h
  · exact (cyc_some l e).lt x h
theorem cyc_le (l : List JA) : (cyc l).length ≤ l.length := by
  by_cases e : (ord l).length = l.length
  · rw [cyc_all l e]; exact Nat.zero_le _
  · exact pigeon _ _ (cyc_some l e).nodup (cyc_some l e).lt
end Go.Proofs.Ytdcjhndcklofoaa
/- The graph: Order; Index of bools and ints, Clone. -/
namespace Go.Proofs.Ytdcjhndcklofoaa
open Go.RowKit
set_option linter.unusedSimpArgs false
set_option linter.unusedVariables false
set_option maxRecDepth 100000 in
set_option maxHeartbeats 8000000 in
theorem ixb_spec (l : List Bool) (v : Bool) (hl : l.length ≤ 1000000) : Spec Try.prog 22 [] [.sq l.length (ba l), .x (.bool v)] (fun r H' => r = .x (.int .i64 (fiv (l.findIdx? (· == v)))) ∧ H' = []) := by
  refine Spec_of Try.func22 rfl ?_
  simp only [Try.ntmps22, List.length_cons, List.length_nil, List.replicate_succ, List.replicate_zero, List.cons_append, List.nil_append, Nat.reduceAdd, Nat.reduceSub]
  (repeat' (first | with_reducible (first | refine awp_seq ?_ | refine awp_region ?_ | refine awp_block ?_ | refine awpL_nil ?_ | refine thenA_normal ?_) | ((apply awpL_evl2 rfl); (case h => ((try (intro (hp : (_ : Bool) = true); ((try simp only [Bool.and_eq_true, Bool.not_eq_true', Bool.not_eq_true] at hp); (try simp only [hp, wte]); (try simp only [whn] at hp)))); (first | (apply Evl_k 0 rfl; (first | exact Evl_mv _ rfl | exact Evl_as _ rfl)) | (apply Evl_k 3 rfl; (exact Evl_len _ _ _ _ _ _ HEl.out rfl rfl))))); (case hT => ((try simp only [wtn, List.append_eq, List.foldl_cons, List.foldl_nil, List.map_cons, List.map_nil, Nat.reduceAdd, Nat.reduceMul, Nat.reduceSub, ↓reduceIte, Nat.reduceEqDiff]); rfl))) | fail))
  refine awp_loopS (S := Nat) (fun k => frm 19 [(0, .sq l.length (ba l)), (1, .x (.bool v)), (7, .x (.int .i64 l.length)), (8, .x (.int .i64 k))]) (fun _ => []) (fun k => k ≤ l.length ∧ ∀ j ∈ l.take k, (j == v) = false) (fun k => l.length - k) 0 (Weak.mk' [] _ (List.Perm.refl _) (VwHs.refl _ _) (by (repeat' (first | exact VwL.nil | (refine VwL.cons ?_ ?_) | exact Vw.refl _ | exact Vw.top _ | fail)))) ⟨Nat.zero_le _, by simp⟩ fun k hk => ?_
  simp only [frm, List.replicate_succ, List.replicate_zero, List.foldl_cons, List.foldl_nil, List.set_cons_zero, List.set_cons_succ]
  obtain ⟨hk, hn⟩ := hk
  have hn := Lib.hid hn
  (repeat' (first | with_reducible (first | refine awp_seq ?_ | refine awp_region ?_ | refine awp_block ?_ | refine awp_ret ?_ | refine awp_skip ?_ | refine awp_exit ?_ | refine awpL_nil ?_ | refine thenA_normal ?_ | refine thenA_exit ?_ | refine thenA_ret ?_ | refine inBlockA_eq ?_ | refine inBlockA_normal ?_ | refine inBlockA_ret ?_) | (refine awp_cond _ rfl (fun h => ?_) (fun h => ?_) <;> ((try (simp only [whn] at h)); skip)) | ((apply awpL_evl2 rfl); (case h => ((try (intro (hp : (_ : Bool) = true); ((try simp only [Bool.and_eq_true, Bool.not_eq_true', Bool.not_eq_true] at hp); (try simp only [hp, wte]); (try simp only [whn] at hp)))); (first | (apply Evl_k 0 rfl; (first | exact Evl_mv _ rfl | exact Evl_as _ rfl)) | (apply Evl_k 6 rfl; (exact Evl_load_at _ _ _ _ _ rfl rfl HAgg.out (by first | exact Nat.le_of_ble_eq_true rfl | fail) (by first | exact Nat.le_of_ble_eq_true rfl | fail))) | (apply Evl_k 7 rfl; (exact Evl_index_sq _ _ _ _ _ _ _ _ _ _ rfl rfl rfl HEl.out rfl (by first | omega | fail) (by simp; first | omega | fail))) | (apply Evl_x; (case hs => (intro _ _ h; cases h)); (case hx => rfl); (case hrun => (intro w; simp [wtb, AV.val, go_sem]; (try go_bits); rfl)))))); (case hT => ((try simp (disch := assumption) only [wtn, ba_drop, List.append_eq, List.foldl_cons, List.foldl_nil, List.map_cons, List.map_nil, Nat.reduceAdd, Nat.reduceMul, Nat.reduceSub, ↓reduceIte, Nat.reduceEqDiff]); rfl))) | fail))
  · refine endA_ret _ _ (Res1 rfl (RV.tmp _) (Weak.mk' [] _ (List.Perm.refl _) (VwHs.refl _ _) (VwL.refl _ _))) ?_
    exact ⟨by rw [fi_some (· == v) (by assumption) hn.out (by simp [h])]; rfl, rfl⟩
  · exact ⟨k + 1, by omega, ⟨by omega, by rw [take_snoc' l k (by assumption)]; intro j hj; simp only [List.mem_append, List.mem_singleton] at hj; rcases hj with hj | rfl; exact hn.out j hj; exact beq_eq_false_iff_ne.2 fun e => h e.symm⟩, (Weak.mk' [] _ (List.Perm.refl _) (VwHs.refl _ _) (by (repeat' (first | exact VwL.nil | (refine VwL.cons ?_ ?_) | exact Vw.refl _ | exact Vw.top _ | fail))))⟩
  · refine endA_ret _ _ (Res1 rfl (RV.tmp _) (Weak.mk' [] _ (List.Perm.refl _) (VwHs.refl _ _) (VwL.refl _ _))) ?_
    have hn := hn.out
    rw [List.take_of_length_le (by omega)] at hn
    exact ⟨by rw [fi_none (· == v) hn]; rfl, rfl⟩
set_option maxRecDepth 100000 in
set_option maxHeartbeats 8000000 in
theorem ixi_spec (l : List Int) (v : Int) (hl : l.length ≤ 1000000) : Spec Try.prog 23 [] [.sq l.length (ia l), .x (.int .i64 v)] (fun r H' => r = .x (.int .i64 (fiv (l.findIdx? (· == v)))) ∧ H' = []) := by
  refine Spec_of Try.func23 rfl ?_
  simp only [Try.ntmps23, List.length_cons, List.length_nil, List.replicate_succ, List.replicate_zero, List.cons_append, List.nil_append, Nat.reduceAdd, Nat.reduceSub]
  (repeat' (first | with_reducible (first | refine awp_seq ?_ | refine awp_region ?_ | refine awp_block ?_ | refine awpL_nil ?_ | refine thenA_normal ?_) | ((apply awpL_evl2 rfl); (case h => ((try (intro (hp : (_ : Bool) = true); ((try simp only [Bool.and_eq_true, Bool.not_eq_true', Bool.not_eq_true] at hp); (try simp only [hp, wte]); (try simp only [whn] at hp)))); (first | (apply Evl_k 0 rfl; (first | exact Evl_mv _ rfl | exact Evl_as _ rfl)) | (apply Evl_k 3 rfl; (exact Evl_len _ _ _ _ _ _ HEl.out rfl rfl))))); (case hT => ((try simp only [wtn, List.append_eq, List.foldl_cons, List.foldl_nil, List.map_cons, List.map_nil, Nat.reduceAdd, Nat.reduceMul, Nat.reduceSub, ↓reduceIte, Nat.reduceEqDiff]); rfl))) | fail))
  refine awp_loopS (S := Nat) (fun k => frm 19 [(0, .sq l.length (ia l)), (1, .x (.int .i64 v)), (7, .x (.int .i64 l.length)), (8, .x (.int .i64 k))]) (fun _ => []) (fun k => k ≤ l.length ∧ ∀ j ∈ l.take k, (j == v) = false) (fun k => l.length - k) 0 (Weak.mk' [] _ (List.Perm.refl _) (VwHs.refl _ _) (by (repeat' (first | exact VwL.nil | (refine VwL.cons ?_ ?_) | exact Vw.refl _ | exact Vw.top _ | fail)))) ⟨Nat.zero_le _, by simp⟩ fun k hk => ?_
  simp only [frm, List.replicate_succ, List.replicate_zero, List.foldl_cons, List.foldl_nil, List.set_cons_zero, List.set_cons_succ]
  obtain ⟨hk, hn⟩ := hk
  have hn := Lib.hid hn
  (repeat' (first | with_reducible (first | refine awp_seq ?_ | refine awp_region ?_ | refine awp_block ?_ | refine awp_ret ?_ | refine awp_skip ?_ | refine awp_exit ?_ | refine awpL_nil ?_ | refine thenA_normal ?_ | refine thenA_exit ?_ | refine thenA_ret ?_ | refine inBlockA_eq ?_ | refine inBlockA_normal ?_ | refine inBlockA_ret ?_) | (refine awp_cond _ rfl (fun h => ?_) (fun h => ?_) <;> ((try (simp only [whn] at h)); skip)) | ((apply awpL_evl2 rfl); (case h => ((try (intro (hp : (_ : Bool) = true); ((try simp only [Bool.and_eq_true, Bool.not_eq_true', Bool.not_eq_true] at hp); (try simp only [hp, wte]); (try simp only [whn] at hp)))); (first | (apply Evl_k 0 rfl; (first | exact Evl_mv _ rfl | exact Evl_as _ rfl)) | (apply Evl_k 6 rfl; (exact Evl_load_at _ _ _ _ _ rfl rfl HAgg.out (by first | exact Nat.le_of_ble_eq_true rfl | fail) (by first | exact Nat.le_of_ble_eq_true rfl | fail))) | (apply Evl_k 7 rfl; (exact Evl_index_sq _ _ _ _ _ _ _ _ _ _ rfl rfl rfl HEl.out rfl (by first | omega | fail) (by simp; first | omega | fail))) | (apply Evl_x; (case hs => (intro _ _ h; cases h)); (case hx => rfl); (case hrun => (intro w; simp [wtb, AV.val, go_sem]; (try go_bits); rfl)))))); (case hT => ((try simp (disch := assumption) only [wtn, ia_drop, List.append_eq, List.foldl_cons, List.foldl_nil, List.map_cons, List.map_nil, Nat.reduceAdd, Nat.reduceMul, Nat.reduceSub, ↓reduceIte, Nat.reduceEqDiff]); rfl))) | fail))
  · refine endA_ret _ _ (Res1 rfl (RV.tmp _) (Weak.mk' [] _ (List.Perm.refl _) (VwHs.refl _ _) (VwL.refl _ _))) ?_
    exact ⟨by rw [fi_some (· == v) (by assumption) hn.out (by simp [h])]; rfl, rfl⟩
  · exact ⟨k + 1, by omega, ⟨by omega, by rw [take_snoc' l k (by assumption)]; intro j hj; simp only [List.mem_append, List.mem_singleton] at hj; rcases hj with hj | rfl; exact hn.out j hj; exact beq_eq_false_iff_ne.2 fun e => h e.symm⟩, (Weak.mk' [] _ (List.Perm.refl _) (VwHs.refl _ _) (by (repeat' (first | exact VwL.nil | (refine VwL.cons ?_ ?_) | exact Vw.refl _ | exact Vw.top _ | fail))))⟩
  · refine endA_ret _ _ (Res1 rfl (RV.tmp _) (Weak.mk' [] _ (List.Perm.refl _) (VwHs.refl _ _) (VwL.refl _ _))) ?_
    have hn := hn.out
    rw [List.take_of_length_le (by omega)] at hn
    exact ⟨by rw [fi_none (· == v) hn]; rfl, rfl⟩
set_option maxRecDepth 100000 in
set_option maxHeartbeats 8000000 in
theorem clone_spec (l : List Int) (hl : l.length ≤ 1000000) (h0 : 0 < l.length) : Spec Try.prog 24 [] [.sq l.length (ia l)] (RowIs l) := by
  refine Spec_of Try.func24 rfl ?_
  simp only [Try.ntmps24, List.length_cons, List.length_nil, List.replicate_succ, List.replicate_zero, List.cons_append, List.nil_append, Nat.reduceAdd, Nat.reduceSub]
  (repeat' (first | with_reducible (first | refine awp_seq ?_ | refine awp_region ?_ | refine awp_ret ?_ | refine awp_skip ?_ | refine awpL_nil ?_ | refine thenA_normal ?_) | (refine awp_cond _ rfl (fun h => ?_) (fun h => ?_) <;> first | (exact absurd h (by decide)) | ((try (simp only [whn] at h)); skip)) | ((apply awpL_evl2 rfl); (case h => ((try (intro (hp : (_ : Bool) = true); ((try simp only [Bool.and_eq_true, Bool.not_eq_true', Bool.not_eq_true] at hp); (try simp only [hp, wte]); (try simp only [whn] at hp)))); (first | (apply Evl_k 0 rfl; (first | exact Evl_mv _ rfl | exact Evl_as _ rfl)) | (apply Evl_k 12 rfl; (exact Evl_eqnil_sq _ _ _ _ _ _ _ HEl.out rfl rfl h0))))); (case hT => ((try simp only [wtn, List.append_eq, List.foldl_cons, List.foldl_nil, List.map_cons, List.map_nil, Nat.reduceAdd, Nat.reduceMul, Nat.reduceSub, ↓reduceIte, Nat.reduceEqDiff]); rfl))) | (refine awpL_cons rfl ?_; ((first | (refine Stp_k 13 rfl ?_; ((refine Stp_append _ _ _ _ _ _ _ _ _ _ _ _ _ _ rfl rfl FRow.out (Src.sq rfl) HElem.out (by first | (simp; done) | fail) (fits _ _ (by omega) (by decide)) (fun ad cap => ?_)))) | (refine Stp_k 17 rfl ?_; ((refine Stp_buildSlice _ _ _ _ _ _ _ _ rfl HElem.out (by first | rfl | fail) rfl (by decide) rfl (fun b => ?_))))); apply awpL_cong; (case hT => ((try simp only [wtn, List.append_eq, List.foldl_cons, List.foldl_nil, List.map_cons, List.map_nil, Nat.reduceAdd, Nat.reduceMul, Nat.reduceSub, ↓reduceIte, Nat.reduceEqDiff]); rfl)); (case hH => ((try simp only [wtn, List.append_eq, List.foldl_cons, List.foldl_nil, List.map_cons, List.map_nil, Nat.reduceAdd, Nat.reduceMul, Nat.reduceSub, ↓reduceIte, Nat.reduceEqDiff]); rfl)))) | fail))
  refine endA_ret _ _ (Res1 rfl (RV.tmp _) (Weak.mk' [] _ (List.Perm.refl _) (VwHs.refl _ _) (VwL.refl _ _))) ?_
  exact ⟨ad, cap, by simp [ev], by simp [ia]⟩
set_option maxRecDepth 100000 in
set_option maxHeartbeats 8000000 in
theorem gorder_spec (l : List JA) (hl : l.length ≤ 1000000) (hm : ∀ j ∈ l, j.needs.length ≤ 8796093022208) : Spec Try.prog 9 [] [.sq l.length (ja l)] (RowIs (ord l)) := by
  refine Spec_of Try.func9 rfl ?_
  simp only [Try.ntmps9, List.length_cons, List.length_nil, List.replicate_succ, List.replicate_zero, List.cons_append, List.nil_append, Nat.reduceAdd, Nat.reduceSub]
  (repeat' (first | with_reducible (first | refine awp_seq ?_ | refine awp_region ?_ | refine awp_ret ?_ | refine awpL_nil ?_ | refine thenA_normal ?_) | ((apply awpL_evl2 rfl); (case h => ((try (intro (hp : (_ : Bool) = true); ((try simp only [Bool.and_eq_true, Bool.not_eq_true', Bool.not_eq_true] at hp); (try simp only [hp, wte]); (try simp only [whn] at hp)))); (first | (apply Evl_k 0 rfl; (first | exact Evl_mv _ rfl | exact Evl_as _ rfl)) | (apply Evl_k 2 rfl; (exact Evl_extract _ _ _ _ rfl rfl rfl)) | (apply Evl_k 11 rfl; (exact Evl_call 18 Try.f18 _ _ rfl rfl Try.func18 (by decide) rfl (VwL.refl _ _) (all_spec l hl hm)))))); (case hT => ((try simp only [wtn, List.append_eq, List.foldl_cons, List.foldl_nil, List.map_cons, List.map_nil, Nat.reduceAdd, Nat.reduceMul, Nat.reduceSub, ↓reduceIte, Nat.reduceEqDiff]); rfl))) | (refine awpL_cons rfl ?_; (((refine Stp_k 11 rfl ?_; ((refine Stp_call 17 Try.f17 ([]) _ _ _ rfl rfl Try.func17 (by decide) rfl (List.Perm.refl _) (VwL.refl _ _) (order_spec l hl) ?_; rintro _ _ ⟨ad, cap, b, c, rfl, rfl⟩)))); apply awpL_cong; (case hT => ((try simp only [wtn, List.append_eq, List.foldl_cons, List.foldl_nil, List.map_cons, List.map_nil, Nat.reduceAdd, Nat.reduceMul, Nat.reduceSub, ↓reduceIte, Nat.reduceEqDiff]); rfl)); (case hH => ((try simp only [wtn, List.append_eq, List.foldl_cons, List.foldl_nil, List.map_cons, List.map_nil, Nat.reduceAdd, Nat.reduceMul, Nat.reduceSub, ↓reduceIte, Nat.reduceEqDiff]); rfl)))) | fail))
  refine endA_ret _ _ (Res1 rfl (RV.tmp _) (Weak.mk' [_, _] [_] (List.Perm.refl _) (VwHs.refl _ _) (by first | exact VwL.refl _ _ | fail))) ?_
  exact ⟨ad, cap, rfl, rfl⟩
end Go.Proofs.Ytdcjhndcklofoaa
