import Derived.Test.YtdcjhndcklofoaaW16
import Derived.Test.YtdcjhndcklofoaaW11
/- The graph: Sort of at most twelve numbers. -/
namespace Go.Proofs.Ytdcjhndcklofoaa
open Go.RowKit
set_option linter.unusedSimpArgs false
set_option linter.unusedVariables false
/-- In order. -/
def SortedOf (b n cap : Nat) (l : List Int) (H' : List Hp) : Prop := ∃ l', H' = [irow b n cap l'] ∧ l'.Perm l ∧ l'.Pairwise (· ≤ ·)
set_option maxRecDepth 100000 in
set_option maxHeartbeats 8000000 in
theorem pdq_spec (b cap : Nat) (l : List Int) (m : Int) (hl : l.length ≤ 12) : Spec Try.prog 40 [irow b l.length cap l] [.x (.slice (some ⟨b, 0, none⟩) l.length cap), .x (.int .i64 0), .x (.int .i64 l.length), .x (.int .i64 m)] (fun r H' => SortedOf b l.length cap l H') := by
  refine Spec_of Try.func40 rfl ?_
  simp only [Try.ntmps40, List.length_cons, List.length_nil, List.replicate_succ, List.replicate_zero, List.cons_append, List.nil_append, Nat.reduceAdd, Nat.reduceSub]
  (repeat' (first | with_reducible (first | refine awp_seq ?_ | refine awp_region ?_ | refine awp_block ?_ | refine awpL_nil ?_ | refine thenA_normal ?_) | ((apply awpL_evl2 rfl); (case h => ((try (intro (hp : (_ : Bool) = true); ((try simp only [Bool.and_eq_true, Bool.not_eq_true', Bool.not_eq_true] at hp); (try simp only [hp, wte]); (try simp only [whn] at hp)))); ((apply Evl_k 0 rfl; (exact Evl_as _ rfl))))); (case hT => ((try simp only [wtn, List.append_eq, List.foldl_cons, List.foldl_nil, List.map_cons, List.map_nil, Nat.reduceAdd, Nat.reduceMul, Nat.reduceSub, ↓reduceIte, Nat.reduceEqDiff]); rfl))) | fail))
  refine awp_loopS (S := Unit) (fun s => frm 134 [(0, .x (.slice (some ⟨b, 0, none⟩) l.length cap)), (1, .x (.int .i64 0)), (2, .x (.int .i64 l.length)), (3, .x (.int .i64 m)), (8, .x (.bool true)), (9, .x (.bool true))]) (fun s => [irow b l.length cap l]) (fun s => True) (fun s => 0) () (Weak.mk' [] _ (List.Perm.refl _) (VwHs.refl _ _) (by (repeat' (first | exact VwL.nil | (refine VwL.cons ?_ ?_) | exact Vw.refl _ | fail)))) trivial fun s hs => ?_
  simp only [frm, List.replicate_succ, List.replicate_zero, List.foldl_cons, List.foldl_nil, List.set_cons_zero, List.set_cons_succ]
  (repeat' (first | with_reducible (first | refine awp_seq ?_ | refine awp_region ?_ | refine awp_block ?_ | refine awp_ret ?_ | refine awpL_nil ?_ | refine thenA_normal ?_ | refine thenA_ret ?_ | refine inBlockA_ret ?_) | (refine awp_cond _ rfl (fun h => ?_) (fun h => ?_) <;> ((try (simp only [whn] at h)); first | (exfalso; omega; done) | skip)) | ((apply awpL_evl2 rfl); (case h => ((try (intro (hp : (_ : Bool) = true); ((try simp only [Bool.and_eq_true, Bool.not_eq_true', Bool.not_eq_true] at hp); (try simp only [hp, wte]); (try simp only [whn] at hp)))); (first | (apply Evl_k 0 rfl; (first | exact Evl_mv _ rfl | exact Evl_as _ rfl)) | (apply Evl_x; (case hs => (intro _ _ h; cases h)); (case hx => rfl); (case hrun => (intro w; simp [wtb, AV.val, go_sem]; (try go_bits); rfl)))))); (case hT => ((try simp only [wtn, List.append_eq, List.foldl_cons, List.foldl_nil, List.map_cons, List.map_nil, Nat.reduceAdd, Nat.reduceMul, Nat.reduceSub, ↓reduceIte, Nat.reduceEqDiff]); rfl))) | (refine awpL_cons rfl ?_; (((refine Stp_k 11 rfl ?_; ((refine Stp_call 42 Try.f42 ([irow b l.length cap l]) _ _ _ rfl rfl Try.func42 (by decide) rfl (List.Perm.refl _) (VwL.refl _ _) (isort_spec b cap l (by omega)) ?_; rintro _ _ ⟨l', rfl, hp, hs⟩)))); apply awpL_cong; (case hT => ((try simp only [wtn, List.append_eq, List.foldl_cons, List.foldl_nil, List.map_cons, List.map_nil, Nat.reduceAdd, Nat.reduceMul, Nat.reduceSub, ↓reduceIte, Nat.reduceEqDiff]); rfl)); (case hH => ((try simp only [wtn, List.append_eq, List.foldl_cons, List.foldl_nil, List.map_cons, List.map_nil, Nat.reduceAdd, Nat.reduceMul, Nat.reduceSub, ↓reduceIte, Nat.reduceEqDiff]); rfl)))) | fail))
  exact endA_ret _ _ (Res0 rfl (Weak.mk' [] _ (List.Perm.refl _) (VwHs.refl _ _) (by (repeat' (first | exact VwL.nil | fail))))) ⟨l', rfl, hp, hs⟩
set_option maxRecDepth 100000 in
set_option maxHeartbeats 8000000 in
theorem sort_spec (b cap : Nat) (l : List Int) (hl : l.length ≤ 12) : Spec Try.prog 35 [irow b l.length cap l] [.x (.slice (some ⟨b, 0, none⟩) l.length cap)] (fun r H' => SortedOf b l.length cap l H') := by
  refine Spec_of Try.func35 rfl ?_
  simp only [Try.ntmps35, List.length_cons, List.length_nil, List.replicate_succ, List.replicate_zero, List.cons_append, List.nil_append, Nat.reduceAdd, Nat.reduceSub]
  (repeat' (first | with_reducible (first | refine awp_seq ?_ | refine awp_region ?_ | refine awpL_nil ?_ | refine thenA_normal ?_) | ((apply awpL_evl2 rfl); (case h => ((try (intro (hp : (_ : Bool) = true); ((try simp only [Bool.and_eq_true, Bool.not_eq_true', Bool.not_eq_true] at hp); (try simp only [hp, wte]); (try simp only [whn] at hp)))); (first | (apply Evl_k 0 rfl; (first | exact Evl_mv _ rfl | exact Evl_as _ rfl)) | (apply Evl_x; (case hs => (intro _ _ h; cases h)); (case hx => rfl); (case hrun => (intro w; simp [wtb, AV.val, go_sem]; (try go_bits); rfl)))))); (case hT => ((try simp only [wtn, List.append_eq, List.foldl_cons, List.foldl_nil, List.map_cons, List.map_nil, Nat.reduceAdd, Nat.reduceMul, Nat.reduceSub, ↓reduceIte, Nat.reduceEqDiff]); rfl))) | (refine awpL_cons rfl ?_; (((refine Stp_k 11 rfl ?_; (first | (refine Stp_call 41 Try.f41 ([]) _ _ _ rfl rfl Try.func41 (by decide) rfl (List.Perm.refl _) (VwL.refl _ _) (len_spec l.length hl) ?_; rintro _ _ ⟨⟨m, rfl⟩, rfl⟩) | (refine Stp_call 40 Try.f40 ([irow b l.length cap l]) _ _ _ rfl rfl Try.func40 (by decide) rfl (List.Perm.refl _) (VwL.refl _ _) (pdq_spec b cap l m hl) ?_; rintro _ _ ⟨l', rfl, hp, hs⟩)))); apply awpL_cong; (case hT => ((try simp only [wtn, List.append_eq, List.foldl_cons, List.foldl_nil, List.map_cons, List.map_nil, Nat.reduceAdd, Nat.reduceMul, Nat.reduceSub, ↓reduceIte, Nat.reduceEqDiff]); rfl)); (case hH => ((try simp only [wtn, List.append_eq, List.foldl_cons, List.foldl_nil, List.map_cons, List.map_nil, Nat.reduceAdd, Nat.reduceMul, Nat.reduceSub, ↓reduceIte, Nat.reduceEqDiff]); rfl)))) | fail))
  exact endA_normal _ _ (Res0 rfl (Weak.mk' [] _ (List.Perm.refl _) (VwHs.refl _ _) (by (repeat' (first | exact VwL.nil | fail))))) ⟨l', rfl, hp, hs⟩
end Go.Proofs.Ytdcjhndcklofoaa
/- Neighbours alike left out: the plain facts. -/
namespace Go.Proofs.Ytdcjhndcklofoaa
open Go.RowKit
set_option linter.unusedSimpArgs false
set_option linter.unusedVariables false
/-- Of the first m, those that differ from the one ahead of them. -/
def kp (l : List Int) (j : Nat) : Bool := j == 0 || l.getD j 0 != l.getD (j - 1) 0
def cmpTo (l : List Int) (m : Nat) : List Int := ((List.range m).filter (kp l)).map fun j => l.getD j 0
def cmp (l : List Int) : List Int := cmpTo l l.length
theorem cmpTo_succ (l : List Int) (m : Nat) : cmpTo l (m + 1) = cmpTo l m ++ if kp l m then [l.getD m 0] else [] := by
  unfold cmpTo
  rw [List.range_succ, List.filter_append, List.map_append]
  congr 1
  cases h : kp l m <;> simp [List.filter_cons, h]
theorem cmpTo_all (l : List Int) : ∀ m, m ≤ l.length → (∀ j, j < m → kp l j = true) → cmpTo l m = l.take m
  | 0, _, _ => by simp [cmpTo]
  | m + 1, h, hk => by
    rw [cmpTo_succ, cmpTo_all l m (by omega) (fun j hj => hk j (by omega)), hk m (by omega), List.take_succ_eq_append_getElem (by omega)]
    simp [List.getD_eq_getElem?_getD, show m < l.length by omega]
theorem cmp_all {l : List Int} (hk : ∀ j, j < l.length → kp l j = true) : cmp l = l := by
  rw [cmp, cmpTo_all l _ (Nat.le_refl _) hk, List.take_length]
theorem kp_pos {l : List Int} {m : Nat} (h : m < l.length) (h1 : m - 1 < l.length) (h2 : l[m] ≠ l[m - 1]) : kp l m = true := by
  unfold kp; rw [getD_at4 _ _ h, getD_at4 _ _ h1]; simp [h2]
theorem kp_neg {l : List Int} {m : Nat} (h0 : 0 < m) (h : m < l.length) (h1 : m - 1 < l.length) (h2 : l[m] = l[m - 1]) : kp l m = false := by
  unfold kp; rw [getD_at4 _ _ h, getD_at4 _ _ h1]; simp [h2]; omega
/-- Inside the second round: up to m looked at, k kept; they lie in front. -/
structure Cmp (l : List Int) (m k : Nat) (r : List Int) : Prop where
  len : r.length = l.length
  kept : r.take k = cmpTo l m
  le : k < m
  rest : ∀ j, m ≤ j + 1 → r.getD j 0 = l.getD j 0
  k0 : m ≤ l.length
theorem Cmp.start {l : List Int} {k : Nat} (h : ∀ j, j < k → kp l j = true) (hk : k < l.length) (hd : kp l k = false) : Cmp l (k + 1) k l := by
  refine ⟨rfl, ?_, by omega, fun _ _ => rfl, by omega⟩
  rw [cmpTo_succ, hd, cmpTo_all l k (by omega) h]; simp
theorem Cmp.skip {l r : List Int} {m k : Nat} (h : Cmp l m k r) (hm : m < l.length) (hk : kp l m = false) : Cmp l (m + 1) k r := by
  refine ⟨h.len, ?_, by have := h.le; omega, fun j hj => h.rest j (by omega), by omega⟩
  rw [cmpTo_succ, hk, h.kept]; simp
theorem Cmp.keep {l r : List Int} {m k : Nat} (h : Cmp l m k r) (hm : m < l.length) (hk : kp l m = true) : Cmp l (m + 1) (k + 1) (r.set k (l.getD m 0)) := by
  have hl := h.len
  have hle := h.le
  refine ⟨by simp [h.len], ?_, by omega, fun j hj => ?_, by omega⟩
  · rw [cmpTo_succ, hk, ← h.kept, List.take_succ_eq_append_getElem (by simp; omega), List.take_set_of_le (Nat.le_refl _)]
    simp
  · rw [← h.rest j (by omega)]
    simp [List.getD_eq_getElem?_getD, List.getElem?_set, show k ≠ j by omega]
theorem Cmp.at {l r : List Int} {m k : Nat} (h : Cmp l m k r) (j : Nat) (hj : m ≤ j + 1) (h1 : j < r.length) : r[j] = l.getD j 0 := by
  rw [← h.rest j hj, getD_at4 _ _ h1]
theorem Cmp.done {l r : List Int} {k : Nat} (h : Cmp l l.length k r) : cmp l = r.take k := h.kept.symm
theorem cmp_sorted {l : List Int} (h : l.Pairwise (· ≤ ·)) : (cmp l).Pairwise (· < ·) ∧ ∀ x, x ∈ cmp l ↔ x ∈ l := by
  have hs : Srt l l.length := by
    intro a b h1 h2
    rw [getD_at4 _ _ (by omega), getD_at4 _ _ h2]
    exact List.pairwise_iff_getElem.1 h a b (by omega) h2 h1
  have key : ∀ m, m ≤ l.length → (cmpTo l m).Pairwise (· < ·) ∧ (∀ x ∈ cmpTo l m, ∀ j, m ≤ j + 1 → 0 < m → j < l.length → x ≤ l.getD j 0) ∧ (∀ x ∈ cmpTo l m, ∃ j, j < m ∧ x = l.getD j 0) ∧ ∀ j, j < m → l.getD j 0 ∈ cmpTo l m := by
    intro m
    induction m with
    | zero => intro _; simp [cmpTo]
    | succ m ih =>
      intro hm
      obtain ⟨i1, i2, i3, i4⟩ := ih (by omega)
      rw [cmpTo_succ]
      refine ⟨?_, ?_, ?_, ?_⟩
      · cases hk : kp l m with
        | false => simpa using i1
        | true =>
          rw [if_pos rfl, List.pairwise_append]
          refine ⟨i1, by simp, fun a ha b hb => ?_⟩
          rw [List.mem_singleton] at hb
          subst hb
          obtain ⟨j, hj, rfl⟩ := i3 a ha
          have hm0 : 0 < m := by omega
          have h1 := i2 _ ha (m - 1) (by omega) hm0 (by omega)
          have h2 := hs (m - 1) m (by omega) (by omega)
          have h3 : l.getD m 0 ≠ l.getD (m - 1) 0 := by
            unfold kp at hk
            simp only [Bool.or_eq_true, beq_iff_eq, bne_iff_ne, ne_eq] at hk
            rcases hk with hk | hk
            · omega
            · exact hk
          omega
      · intro x hx j hj h0 hjl
        rcases List.mem_append.1 hx with hx | hx
        · obtain ⟨j', hj', rfl⟩ := i3 x hx
          exact hs j' j (by omega) hjl
        · cases hk : kp l m with
          | false => rw [hk] at hx; simp at hx
          | true =>
            rw [hk] at hx; simp at hx
            rw [hx]
            have : m = j ∨ m < j := by omega
            rcases this with rfl | h2
            · simp [List.getD_eq_getElem?_getD]
            · have := hs m j h2 hjl
              simpa [List.getD_eq_getElem?_getD] using this
      · intro x hx
        rcases List.mem_append.1 hx with hx | hx
        · obtain ⟨j, hj, e⟩ := i3 x hx; exact ⟨j, by omega, e⟩
        · cases hk : kp l m with
          | false => rw [hk] at hx; simp at hx
          | true => rw [hk, if_pos rfl, List.mem_singleton] at hx; exact ⟨m, by omega, hx⟩
      · intro j hj
        by_cases e : j = m
        · subst e
          cases hk : kp l j with
          | true => simp
          | false =>
            have h3 : j ≠ 0 ∧ l.getD j 0 = l.getD (j - 1) 0 := by
              unfold kp at hk
              simp only [Bool.or_eq_false_iff, beq_eq_false_iff_ne, bne_eq_false_iff_eq, ne_eq] at hk
              exact hk
            rw [h3.2]
            exact List.mem_append_left _ (i4 (j - 1) (by omega))
        · exact List.mem_append_left _ (i4 j (by omega))
  obtain ⟨k1, -, k3, k4⟩ := key l.length (Nat.le_refl _)
  refine ⟨k1, fun x => ⟨fun hx => ?_, fun hx => ?_⟩⟩
  · obtain ⟨j, hj, rfl⟩ := k3 x hx
    rw [getD_at4 _ _ hj]; exact List.getElem_mem hj
  · obtain ⟨j, hj, rfl⟩ := List.getElem_of_mem hx
    rw [← getD_at4 _ _ hj]; exact k4 j hj
end Go.Proofs.Ytdcjhndcklofoaa
/- The graph: Compact. -/
namespace Go.Proofs.Ytdcjhndcklofoaa
open Go.RowKit
set_option linter.unusedSimpArgs false
set_option linter.unusedVariables false
/-- A row given back, and that row. -/
def RowOf (b cap : Nat) (l : List Int) (r : AV) (H' : List Hp) : Prop := r = .x (.slice (some ⟨b, 0, none⟩) l.length cap) ∧ H' = [irow b l.length cap l]
set_option maxRecDepth 100000 in
set_option maxHeartbeats 8000000 in
theorem compact_spec (b cap : Nat) (l : List Int) (hl : l.length ≤ 8796093022208) : Spec Try.prog 36 [irow b l.length cap l] [.x (.slice (some ⟨b, 0, none⟩) l.length cap)] (RowOf b cap (cmp l)) := by
  refine Spec_of Try.func36 rfl ?_
  simp only [Try.ntmps36, List.length_cons, List.length_nil, List.replicate_succ, List.replicate_zero, List.cons_append, List.nil_append, Nat.reduceAdd, Nat.reduceSub]
  refine awp_row 0 rfl fun hcap h1 h2 => ?_
  clear h1 h2
  (repeat' (first | with_reducible (first | refine awp_seq ?_ | refine awp_region ?_ | refine awp_block ?_ | refine awp_ret ?_ | refine awp_skip ?_ | refine awpL_nil ?_ | refine thenA_normal ?_ | refine thenA_ret ?_) | (refine awp_cond _ rfl (fun h => ?_) (fun h => ?_) <;> ((try (simp only [whn] at h)); skip)) | ((apply awpL_evl2 rfl); (case h => ((try (intro (hp : (_ : Bool) = true); ((try simp only [Bool.and_eq_true, Bool.not_eq_true', Bool.not_eq_true] at hp); (try simp only [hp, wte]); (try simp only [whn] at hp)))); (first | (apply Evl_k 0 rfl; (first | exact Evl_mv _ rfl | exact Evl_as _ rfl)) | (apply Evl_x; (case hs => (intro _ _ h; cases h)); (case hx => rfl); (case hrun => (intro w; simp [wtb, AV.val, go_sem]; (try go_bits); rfl)))))); (case hT => ((try simp only [wtn, List.append_eq, List.foldl_cons, List.foldl_nil, List.map_cons, List.map_nil, Nat.reduceAdd, Nat.reduceMul, Nat.reduceSub, ↓reduceIte, Nat.reduceEqDiff]); rfl))) | fail))
  · refine endA_ret _ _ (Res1 rfl (RV.tmp _) (Weak.mk' [] _ (List.Perm.refl _) (VwHs.refl _ _) (VwL.refl _ _))) ?_
    have : cmp l = l := cmp_all fun j hj => by
      have : j = 0 := by omega
      subst this; rfl
    rw [this]
    exact ⟨rfl, rfl⟩
  refine awp_loopS (S := Nat) (fun s => frm 61 [(0, .x (.slice (some ⟨b, 0, none⟩) l.length cap)), (2, .x (.slice none 0 0)), (3, .x (.int .i64 s))]) (fun s => [irow b l.length cap l]) (fun s => 1 ≤ s ∧ s ≤ l.length ∧ ∀ j, j < s → kp l j = true) (fun s => l.length - s) 1 (Weak.mk' [] _ (List.Perm.refl _) (VwHs.refl _ _) (by (repeat' (first | exact VwL.nil | (refine VwL.cons ?_ ?_) | exact Vw.refl _ | exact Vw.top _ | fail)))) ?inv fun s hs => ?_
  case inv =>
    refine ⟨Nat.le_refl _, by omega, fun j hj => ?_⟩
    have e : j = 0 := by omega
    subst e; rfl
  obtain ⟨h1, h2, hk⟩ := hs
  have hk' := Lib.hid hk
  clear hk
  simp only [frm, List.replicate_succ, List.replicate_zero, List.foldl_cons, List.foldl_nil, List.set_cons_zero, List.set_cons_succ]
  obtain ⟨s, rfl⟩ : ∃ q, s = q + 1 := ⟨s - 1, by omega⟩
  (repeat' (first | with_reducible (first | refine awp_seq ?_ | refine awp_region ?_ | refine awp_block ?_ | refine awp_ret ?_ | refine awp_skip ?_ | refine awp_exit ?_ | refine awpL_nil ?_ | refine dr_nil ?_ | refine thenA_normal ?_ | refine thenA_exit ?_ | refine inBlockA_eq ?_ | refine inBlockA_normal ?_) | (with_reducible refine awp_drawnQ mixed ?_ ?_; (decide +kernel)) | (refine awp_cond _ rfl (fun h => ?_) (fun h => ?_) <;> ((try (simp only [whn] at h)); skip)) | ((first | apply awpL_evl2 rfl | apply dr_evl2 rfl); (case h => ((try (intro (hp : (_ : Bool) = true); ((try simp only [Bool.and_eq_true, Bool.not_eq_true', Bool.not_eq_true] at hp); (try simp only [hp, wte]); (try simp only [whn] at hp)))); (first | (apply Evl_k 0 rfl; (first | exact Evl_mv _ rfl | exact Evl_as _ rfl)) | (apply Evl_k 6 rfl; (exact Evl_load_row _ _ _ _ _ _ _ _ _ _ _ _ rfl rfl FRow.out HAgg.out (by first | (simp [wlq]; omega) | fail) (by first | (simp [wlq]; omega) | fail))) | (apply Evl_k 7 rfl; (exact Evl_index_own _ _ _ _ _ _ _ _ _ _ _ _ rfl rfl rfl HEl.out rfl (by first | omega | fail))) | (apply Evl_k 9 rfl; (exact Evl_slice_own _ _ _ _ _ _ _ _ _ _ _ _ rfl rfl HEl.out (by first | exact .inr ⟨_, _, rfl, rfl⟩ | fail) (by first | exact .inl ⟨rfl, rfl⟩ | fail) (by omega) (by omega))) | (apply Evl_x; (case hs => (intro _ _ h; cases h)); (case hx => rfl); (case hrun => (intro w; simp [wtb, AV.val, go_sem]; (try go_bits); rfl)))))); (case hT => ((try simp (disch := omega) only [wtn, ia_drop, ifcap, List.append_eq, List.foldl_cons, List.foldl_nil, List.map_cons, List.map_nil, Nat.reduceAdd, Nat.reduceMul, Nat.reduceSub, ↓reduceIte, Nat.reduceEqDiff]); rfl))) | fail))
  · have hk1 : kp l (s + 1) = false := kp_neg (by omega) (by omega) (by omega) h
    have hC : Cmp l (s + 1 + 1) (s + 1) l := Cmp.start hk'.out (by omega) hk1
    clear h hk'
    refine awp_loopS (S := Nat × Nat × List Int) (fun q => frm 61 [(0, .x (.slice (some ⟨b, 0, none⟩) l.length cap)), (3, .x (.int .i64 q.2.1)), (4, .x (.slice (some ⟨b, s + 1, none⟩) (l.length - (s + 1)) (cap - (s + 1)))), (5, .x (.int .i64 q.1))]) (fun q => [irow b l.length cap q.2.2]) (fun q => 1 ≤ q.1 ∧ Cmp l (s + 1 + q.1) q.2.1 q.2.2) (fun q => l.length - q.1) (1, s + 1, l) (Weak.mk' [] _ (List.Perm.refl _) (VwHs.refl _ _) (by (repeat' (first | exact VwL.nil | (refine VwL.cons ?_ ?_) | exact Vw.refl _ | exact Vw.top _ | fail)))) ⟨Nat.le_refl _, hC⟩ fun q hq => ?_
    clear hC hk1
    obtain ⟨m, k, r⟩ := q
    obtain ⟨hm, hC⟩ := hq
    simp only at hm hC
    have hlen := hC.len
    have hkl := hC.le
    have hml := hC.k0
    have hC' := Lib.hid hC
    clear hC
    simp only [frm, List.replicate_succ, List.replicate_zero, List.foldl_cons, List.foldl_nil, List.set_cons_zero, List.set_cons_succ]
    obtain ⟨m, rfl⟩ : ∃ q, m = q + 1 := ⟨m - 1, by omega⟩
    (repeat' (first | with_reducible (first | refine awp_seq ?_ | refine awp_region ?_ | refine awp_block ?_ | refine awp_skip ?_ | refine awp_exit ?_ | refine awpL_nil ?_ | refine dr_nil ?_ | refine thenA_normal ?_ | refine thenA_exit ?_ | refine inBlockA_eq ?_ | refine inBlockA_normal ?_) | (with_reducible refine awp_drawnQ mixed ?_ ?_; (decide +kernel)) | (refine awp_cond _ rfl (fun h => ?_) (fun h => ?_) <;> ((try (simp only [whn] at h)); skip)) | ((first | apply awpL_evl2 rfl | apply dr_evl2 rfl); (case h => ((try (intro (hp : (_ : Bool) = true); ((try simp only [Bool.and_eq_true, Bool.not_eq_true', Bool.not_eq_true] at hp); (try simp only [hp, wte]); (try simp only [whn] at hp)))); (first | (apply Evl_k 0 rfl; (first | exact Evl_mv _ rfl | exact Evl_as _ rfl)) | (apply Evl_k 6 rfl; (exact Evl_load_row _ _ _ _ _ _ _ _ _ _ _ _ rfl rfl FRow.out HAgg.out (by first | (simp [wlq]; omega) | fail) (by first | (simp [wlq]; omega) | fail))) | (apply Evl_k 7 rfl; (exact Evl_index_own _ _ _ _ _ _ _ _ _ _ _ _ rfl rfl rfl HEl.out rfl (by first | omega | fail))) | (apply Evl_k 9 rfl; (exact Evl_slice_own _ _ _ _ _ _ _ _ _ _ _ _ rfl rfl HEl.out (by first | exact .inr ⟨_, _, rfl, rfl⟩ | fail) (by first | exact .inl ⟨rfl, rfl⟩ | fail) (by omega) (by omega))) | (apply Evl_x; (case hs => (intro _ _ h; cases h)); (case hx => rfl); (case hrun => (intro w; simp [wtb, AV.val, go_sem]; (try go_bits); rfl)))))); (case hT => ((try simp (disch := omega) only [wtn, ia_drop, ifcap, spl_ia, List.append_eq, List.foldl_cons, List.foldl_nil, List.map_cons, List.map_nil, Nat.reduceAdd, Nat.reduceMul, Nat.reduceSub, ↓reduceIte, Nat.reduceEqDiff]); rfl))) | (refine awpL_cons rfl ?_; (((refine Stp_k 16 rfl ?_; ((refine Stp_store_row _ _ _ _ _ _ _ _ _ _ _ rfl rfl FRow.out HSize.out (by first | rfl | fail) (by first | (simp [wlq]; omega) | fail) ?_)))); apply awpL_cong; (case hT => ((try simp (disch := omega) only [wtn, ia_drop, ifcap, spl_ia, List.append_eq, List.foldl_cons, List.foldl_nil, List.map_cons, List.map_nil, Nat.reduceAdd, Nat.reduceMul, Nat.reduceSub, ↓reduceIte, Nat.reduceEqDiff]); rfl)); (case hH => ((try simp (disch := omega) only [wtn, ia_drop, ifcap, spl_ia, List.append_eq, List.foldl_cons, List.foldl_nil, List.map_cons, List.map_nil, Nat.reduceAdd, Nat.reduceMul, Nat.reduceSub, ↓reduceIte, Nat.reduceEqDiff]); rfl)))) | fail))
    · have hC := hC'.out
      have e1 := hC.at (s + 1 + (m + 1)) (by omega) (by omega)
      have e2 := hC.at (s + 1 + m) (by omega) (by omega)
      refine ⟨(m + 1 + 1, k + 1, r.set k r[s + 1 + (m + 1)]), by simp only; omega, ⟨by simp only; omega, ?_⟩, (Weak.mk' [] _ (List.Perm.refl _) (VwHs.refl _ _) (by (repeat' (first | exact VwL.nil | (refine VwL.cons ?_ ?_) | exact Vw.refl _ | exact Vw.top _ | fail))))⟩
      simp only
      rw [e1, show s + 1 + (m + 1 + 1) = s + 1 + (m + 1) + 1 from rfl]
      refine hC.keep (by omega) (kp_pos (by omega) (by omega) ?_)
      rw [← getD_at4, ← getD_at4, ← e1]
      intro h9
      exact h (h9.trans e2.symm)
    · have hC := hC'.out
      have e1 := hC.at (s + 1 + (m + 1)) (by omega) (by omega)
      have e2 := hC.at (s + 1 + m) (by omega) (by omega)
      refine ⟨(m + 1 + 1, k, r), by simp only; omega, ⟨by simp only; omega, ?_⟩, (Weak.mk' [] _ (List.Perm.refl _) (VwHs.refl _ _) (by (repeat' (first | exact VwL.nil | (refine VwL.cons ?_ ?_) | exact Vw.refl _ | exact Vw.top _ | fail))))⟩
      simp only
      refine hC.skip (by omega) (kp_neg (by omega) (by omega) (by omega) ?_)
      rw [← getD_at4, ← getD_at4]
      exact e1.symm.trans (h.trans e2)
    · have hC := hC'.out
      have em : s + 1 + (m + 1) = l.length := by omega
      rw [em] at hC
      have ec := hC.done
      have ek : k = (cmp l).length := by rw [ec, List.length_take]; omega
      clear hC hC'
      refine awpL_cons rfl ?_
      refine Stp_clear 0 _ _ _ _ _ b k (l.length - k) _ _ _ _ rfl rfl rfl HElem.out rfl rfl (by rw [ia_len]; omega) ?_
      refine awpL_nil ?_
      refine thenA_normal ?_
      refine awp_shrink 0 k rfl (by omega) (fun _ => .inr trivial) (by simp) ?_
      have e9 : ((spl (ia r) k (List.replicate (l.length - k) (.x (.int .i64 0)))).take (k * 1)) = ia (cmp l) := by
        rw [ec, Nat.mul_one]
        unfold spl
        rw [List.append_assoc, List.take_append_of_le_length (by simp; omega), List.take_take, Nat.min_self]
        unfold ia; rw [List.map_take]
      rw [e9]
      clear e9
      have ek' := Lib.hid ek
      clear ek ec
      (try simp only [wtn, List.append_eq, List.foldl_cons, List.foldl_nil, List.map_cons, List.map_nil, Nat.reduceAdd, Nat.reduceMul, Nat.reduceSub, ↓reduceIte, Nat.reduceEqDiff])
      (repeat' (first | with_reducible (first | refine awp_seq ?_ | refine awp_region ?_ | refine awp_ret ?_ | refine awpL_nil ?_ | refine thenA_normal ?_ | refine thenA_ret ?_ | refine inBlockA_ret ?_) | ((apply awpL_evl2 rfl); (case h => ((try (intro (hp : (_ : Bool) = true); ((try simp only [Bool.and_eq_true, Bool.not_eq_true', Bool.not_eq_true] at hp); (try simp only [hp, wte]); (try simp only [whn] at hp)))); (first | (apply Evl_k 0 rfl; (first | exact Evl_mv _ rfl | exact Evl_as _ rfl)) | (apply Evl_k 9 rfl; (exact Evl_slice_own _ _ _ _ _ _ _ _ _ _ _ _ rfl rfl HEl.out (by first | exact .inl ⟨rfl, rfl⟩ | fail) (by first | exact .inr ⟨_, _, rfl, rfl⟩ | fail) (by omega) (by omega)))))); (case hT => ((try simp only [wtn, List.append_eq, List.foldl_cons, List.foldl_nil, List.map_cons, List.map_nil, Nat.reduceAdd, Nat.reduceMul, Nat.reduceSub, ↓reduceIte, Nat.reduceEqDiff]); rfl))) | fail))
      have ek := ek'.out
      subst ek
      simp only [Nat.sub_zero, ite_self]
      refine endA_ret _ _ (Res1 rfl (RV.tmp _) (Weak.mk' [] _ (List.Perm.refl _) (VwHs.refl _ _) (VwL.refl _ _))) ?_
      exact ⟨rfl, rfl⟩
  · exact ⟨s + 1 + 1, by omega, ⟨by omega, by omega, fun j hj => by
      by_cases e : j = s + 1
      · subst e; exact kp_pos (by omega) (by omega) h
      · exact hk'.out j (by omega)⟩, (Weak.mk' [] _ (List.Perm.refl _) (VwHs.refl _ _) (by (repeat' (first | exact VwL.nil | (refine VwL.cons ?_ ?_) | exact Vw.refl _ | exact Vw.top _ | fail))))⟩
  · refine endA_ret _ _ (Res1 rfl (RV.tmp _) (Weak.mk' [] _ (List.Perm.refl _) (VwHs.refl _ _) (VwL.refl _ _))) ?_
    have : cmp l = l := cmp_all fun j hj => hk'.out j (by omega)
    rw [this]
    exact ⟨rfl, rfl⟩
end Go.Proofs.Ytdcjhndcklofoaa
/- What a job needs: the plain facts. -/
namespace Go.Proofs.Ytdcjhndcklofoaa
open Go.RowKit
set_option linter.unusedSimpArgs false
set_option linter.unusedVariables false
theorem sorted_ext : ∀ {l m : List Int}, l.Pairwise (· < ·) → m.Pairwise (· < ·) → (∀ x, x ∈ l ↔ x ∈ m) → l = m
  | [], [], _, _, _ => rfl
  | [], b :: m, _, _, h => by have := (h b).2 (List.mem_cons_self ..); simp at this
  | a :: l, [], _, _, h => by have := (h a).1 (List.mem_cons_self ..); simp at this
  | a :: l, b :: m, hl, hm, h => by
    rw [List.pairwise_cons] at hl hm
    have e : a = b := by
      rcases List.mem_cons.1 ((h a).1 (List.mem_cons_self ..)) with e | h1
      · exact e
      · rcases List.mem_cons.1 ((h b).2 (List.mem_cons_self ..)) with e | h2
        · exact e.symm
        · have := hm.1 a h1; have := hl.1 b h2; omega
    subst e
    congr 1
    refine sorted_ext hl.2 hm.2 fun x => ⟨fun hx => ?_, fun hx => ?_⟩
    · rcases List.mem_cons.1 ((h x).1 (List.mem_cons_of_mem _ hx)) with e | h1
      · subst e; have := hl.1 x hx; omega
      · exact h1
    · rcases List.mem_cons.1 ((h x).2 (List.mem_cons_of_mem _ hx)) with e | h1
      · subst e; have := hm.1 x hx; omega
      · exact h1
/-- The jobs that the first n needs of job j name. -/
def gat (l : List JA) (j : JA) (n : Nat) : List Int := ((j.needs.take n).map (idx l)).filter fun k => decide (0 ≤ k)
theorem gat_zero (l : List JA) (j : JA) : gat l j 0 = [] := by simp [gat]
theorem gat_le (l : List JA) (j : JA) (n : Nat) : (gat l j n).length ≤ n := by
  unfold gat
  refine Nat.le_trans (List.length_filter_le ..) ?_
  simp; omega
theorem gat_pos (l : List JA) (j : JA) (n : Nat) (h : n < j.needs.length) (h0 : 0 ≤ idx l (j.needs[n])) : gat l j (n + 1) = gat l j n ++ [idx l (j.needs[n])] := by
  unfold gat
  rw [take_snoc' _ n h, List.map_append, List.filter_append]
  simp [h0]
theorem gat_neg (l : List JA) (j : JA) (n : Nat) (h : n < j.needs.length) (h0 : ¬ 0 ≤ idx l (j.needs[n])) : gat l j (n + 1) = gat l j n := by
  unfold gat
  rw [take_snoc' _ n h, List.map_append, List.filter_append]
  simp [h0]
theorem ndsTo_sorted (l : List JA) (i n : Nat) : (ndsTo l i n).Pairwise (· < ·) := by
  unfold ndsTo
  rw [List.pairwise_map]
  refine List.Pairwise.imp ?_ (List.Pairwise.filter _ List.pairwise_lt_range)
  intro a b h; omega
theorem mem_ndsTo (l : List JA) (i n : Nat) (x : Int) : x ∈ ndsTo l i n ↔ ∃ k : Nat, k < n ∧ wnt l i k = true ∧ (k : Int) = x := by
  unfold ndsTo
  simp only [List.mem_map, List.mem_filter, List.mem_range]
  constructor
  · rintro ⟨k, ⟨h1, h2⟩, h3⟩; exact ⟨k, h1, h2, h3⟩
  · rintro ⟨k, h1, h2, h3⟩; exact ⟨k, ⟨h1, h2⟩, h3⟩
theorem cmp_nds (l : List JA) (i : Nat) (hi : i < l.length) (m : List Int) (hp : m.Perm (gat l l[i] l[i].needs.length)) (hs : m.Pairwise (· ≤ ·)) : cmp m = ndsTo l i l.length := by
  obtain ⟨h1, h2⟩ := cmp_sorted hs
  refine sorted_ext h1 (ndsTo_sorted ..) fun x => ?_
  rw [h2, hp.mem_iff, mem_ndsTo]
  unfold gat
  rw [List.take_length]
  simp only [List.mem_filter, List.mem_map, decide_eq_true_eq]
  constructor
  · rintro ⟨⟨s, hs, rfl⟩, h0⟩
    have := (idx_lo l s).2
    refine ⟨(idx l s).toNat, by omega, ?_, by omega⟩
    rw [wnt_eq hi, List.any_eq_true]
    exact ⟨s, hs, by rw [Int.toNat_of_nonneg h0]; simp⟩
  · rintro ⟨k, hk, hw, rfl⟩
    rw [wnt_eq hi, List.any_eq_true] at hw
    obtain ⟨s, hs, he⟩ := hw
    exact ⟨⟨s, hs, by simpa using he⟩, by omega⟩
end Go.Proofs.Ytdcjhndcklofoaa
