import Derived.Test.YtfokgdmlecnpbaaW30
import Derived.Test.YtfokgdmlecnpbaaW31
/- The reference's printer: signals, patterns. -/
namespace Go.Proofs.Ytfokgdmlecnpbaa
open Go.RowKit
set_option linter.unusedSimpArgs false
set_option linter.unusedVariables false
def sigNames : List (List UInt8) := [[72, 85, 80], [73, 78, 84], [81, 85, 73, 84], [85, 83, 82, 49], [85, 83, 82, 50], [84, 69, 82, 77]]
/-- The name of a signal. -/
def sigN (n : Int) : List UInt8 := match sigNames.find? (fun s => sigL s == n) with | some s => s | none => [63]
theorem find_first {α : Type} (l : List α) (p : α → Bool) (k : Nat) (h : k < l.length) (hn : ∀ x ∈ l.take k, p x = false) (hp : p l[k] = true) : l.find? p = some l[k] := by
  rw [List.find?_eq_some_iff_getElem]
  refine ⟨hp, k, h, rfl, fun j hj => ?_⟩
  rw [hn l[j] (List.mem_iff_getElem.2 ⟨j, by rw [List.length_take]; omega, by rw [List.getElem_take]⟩)]; rfl
theorem names_len : sigNames.length = 6 := rfl
set_option maxRecDepth 100000 in
set_option maxHeartbeats 8000000 in
theorem signame_s (n : Int) : Spec Try.prog 41 [] [.x (.int .i64 n)] (fun r H' => r = .x (.string (bs (sigN n))) ∧ H' = []) := by
  refine Spec_of Try.func41 rfl ?_
  simp only [Try.ntmps41, List.length_cons, List.length_nil, List.replicate_succ, List.replicate_zero, List.cons_append, List.nil_append, Nat.reduceAdd, Nat.reduceSub]
  (repeat' (first | with_reducible (first | refine awp_seq ?_ | refine awp_region ?_ | refine awp_block ?_ | refine awpL_nil ?_ | refine thenA_normal ?_) | ((apply awpL_evl2 rfl); (case h => ((try (intro (hp : (_ : Bool) = true); ((try simp only [Bool.and_eq_true, Bool.not_eq_true', Bool.not_eq_true] at hp); (try simp only [hp, wte]); (try simp only [whn] at hp)))); ((apply Evl_k 0 rfl; (exact Evl_as _ rfl))))); (case hT => ((try simp only [wtn, List.append_eq, List.foldl_cons, List.foldl_nil, List.map_cons, List.map_nil, Nat.reduceAdd, Nat.reduceMul, Nat.reduceSub, ↓reduceIte, Nat.reduceEqDiff]); rfl))) | (refine awpL_cons rfl ?_; (((refine Stp_k 17 rfl ?_; ((refine Stp_buildSlice _ _ _ _ _ _ _ _ rfl HElem.out (by first | rfl | fail) rfl (by decide) rfl (fun b => ?_))))); apply awpL_cong; (case hT => ((try simp only [wtn, List.append_eq, List.foldl_cons, List.foldl_nil, List.map_cons, List.map_nil, Nat.reduceAdd, Nat.reduceMul, Nat.reduceSub, ↓reduceIte, Nat.reduceEqDiff]); rfl)); (case hH => ((try simp only [wtn, List.append_eq, List.foldl_cons, List.foldl_nil, List.map_cons, List.map_nil, Nat.reduceAdd, Nat.reduceMul, Nat.reduceSub, ↓reduceIte, Nat.reduceEqDiff]); rfl)))) | fail))
  refine awp_loopS (S := Nat) (fun k => frm 23 [(0, .x (.int .i64 n)), (3, .x (.slice (some ⟨b, 0, none⟩) 6 6)), (4, .x (.int .i64 k))]) (fun _ => [.row (some ⟨b, 0, none⟩) 6 6 9 1 (sa sigNames)]) (fun k => k ≤ 6 ∧ ∀ x ∈ sigNames.take k, (sigL x == n) = false) (fun k => 6 - k) 0 (Weak.mk' [] _ (List.Perm.refl _) (VwHs.refl _ _) (by (repeat' (first | exact VwL.nil | (refine VwL.cons ?_ ?_) | exact Vw.refl _ | exact Vw.top _ | fail)))) ⟨Nat.zero_le _, by simp⟩ fun k hk => ?_
  obtain ⟨hk, hn⟩ := hk
  have hn' := Lib.hid hn
  clear hn
  have hnl := names_len
  simp only [frm, List.replicate_succ, List.replicate_zero, List.foldl_cons, List.foldl_nil, List.set_cons_zero, List.set_cons_succ]
  (repeat' (first | with_reducible (first | refine awp_seq ?_ | refine awp_region ?_ | refine awp_block ?_ | refine awp_ret ?_ | refine awp_skip ?_ | refine awp_exit ?_ | refine awpL_nil ?_ | refine thenA_normal ?_ | refine thenA_exit ?_ | refine thenA_ret ?_ | refine inBlockA_eq ?_ | refine inBlockA_normal ?_ | refine inBlockA_ret ?_) | (refine awp_cond _ rfl (fun h => ?_) (fun h => ?_) <;> ((try (simp only [whn] at h)); skip)) | ((apply awpL_evl2 rfl); (case h => ((try (intro (hp : (_ : Bool) = true); ((try simp only [Bool.and_eq_true, Bool.not_eq_true', Bool.not_eq_true] at hp); (try simp only [hp, wte]); (try simp only [whn] at hp)))); (first | (apply Evl_k 0 rfl; (first | exact Evl_mv _ rfl | exact Evl_as _ rfl)) | (apply Evl_k 6 rfl; (exact Evl_load_row _ _ _ _ _ _ _ _ _ _ _ _ rfl rfl FRow.out HAgg.out (by first | (simp [wlq]; omega) | fail) (by first | (simp [wlq]; omega) | fail))) | (apply Evl_k 7 rfl; (exact Evl_index_own _ _ _ _ _ _ _ _ _ _ _ _ rfl rfl rfl HEl.out rfl (by first | omega | fail))) | (apply Evl_k 11 rfl; (exact Evl_call 53 Try.f53 _ _ rfl rfl Try.func53 (by decide) rfl (VwL.refl _ _) (signal_s _))) | (apply Evl_x; (case hs => (intro _ _ h; cases h)); (case hx => rfl); (case hrun => (intro w; simp [wtb, AV.val, go_sem]; (try go_bits); rfl)))))); (case hT => ((try simp (disch := omega) only [wtn, sa_drop, List.append_eq, List.foldl_cons, List.foldl_nil, List.map_cons, List.map_nil, Nat.reduceAdd, Nat.reduceMul, Nat.reduceSub, ↓reduceIte, Nat.reduceEqDiff]); rfl))) | fail))
  · refine endA_ret _ _ (Res1 rfl (RV.tmp _) (Weak.mk' [_] [] (List.Perm.refl _) (VwHs.refl _ _) (by first | exact VwL.refl _ _ | fail))) ?_
    refine ⟨?_, rfl⟩
    unfold sigN
    rw [find_first _ _ k (by omega) hn'.out (by simp [h])]
    rfl
  · exact ⟨k + 1, by omega, ⟨by omega, by rw [take_snoc' _ k (by omega)]; intro x hx; rcases List.mem_append.1 hx with hx | hx; exact hn'.out x hx; rw [List.mem_singleton] at hx; subst hx; exact beq_eq_false_iff_ne.2 h⟩, (Weak.mk' [] _ (List.Perm.refl _) (VwHs.refl _ _) (by (repeat' (first | exact VwL.nil | (refine VwL.cons ?_ ?_) | exact Vw.refl _ | exact Vw.top _ | fail))))⟩
  · refine endA_ret _ _ (Res1 rfl (RV.tmp _) (Weak.mk' [_] [] (List.Perm.refl _) (VwHs.refl _ _) (by first | exact VwL.refl _ _ | fail))) ?_
    refine ⟨?_, rfl⟩
    unfold sigN
    have hn := hn'.out
    rw [List.take_of_length_le (by omega)] at hn
    have : sigNames.find? (fun s => sigL s == n) = none := by rw [List.find?_eq_none]; intro x hx; rw [hn x hx]; simp
    rw [this]
    rfl
def slB (b : UInt8) : List UInt8 := if b.toNat = 47 then [92, b] else [b]
theorem slB_len (b : UInt8) : (slB b).length ≤ 2 := by unfold slB; split <;> simp
/-- A pattern with a backslash ahead of each slash. -/
def slashL (s : List UInt8) : List UInt8 := s.flatMap slB
theorem slashL_succ (s : List UInt8) (k : Nat) (h : k < s.length) : slashL (s.take (k + 1)) = slashL (s.take k) ++ slB s[k] := by
  unfold slashL; rw [take_snoc' s k h, List.flatMap_append]; congr 1; simp
theorem slashL_len (s : List UInt8) : (slashL s).length ≤ 2 * s.length := by
  unfold slashL
  induction s with
  | nil => simp
  | cons b s ih => have := slB_len b; simp only [List.flatMap_cons, List.length_append, List.length_cons]; omega
set_option maxRecDepth 100000 in
set_option maxHeartbeats 8000000 in
theorem slashed13_s (s : List UInt8) (hl : s.length ≤ 1000000) : Spec Try.prog 38 [] [.x (.string (bs s))] (fun r H' => r = .x (.string (bs (slashL s))) ∧ H' = []) := by
  refine Spec_of Try.func38 rfl ?_
  simp only [Try.ntmps38, List.length_cons, List.length_nil, List.replicate_succ, List.replicate_zero, List.cons_append, List.nil_append, Nat.reduceAdd, Nat.reduceSub]
  (repeat' (first | with_reducible (first | refine awp_seq ?_ | refine awp_region ?_ | refine awp_block ?_ | refine awpL_nil ?_ | refine thenA_normal ?_) | ((apply awpL_evl2 rfl); (case h => ((try (intro (hp : (_ : Bool) = true); ((try simp only [Bool.and_eq_true, Bool.not_eq_true', Bool.not_eq_true] at hp); (try simp only [hp, wte]); (try simp only [whn] at hp)))); ((apply Evl_k 0 rfl; (exact Evl_as _ rfl))))); (case hT => ((try simp only [wtn, List.append_eq, List.foldl_cons, List.foldl_nil, List.map_cons, List.map_nil, Nat.reduceAdd, Nat.reduceMul, Nat.reduceSub, ↓reduceIte, Nat.reduceEqDiff]); rfl))) | fail))
  refine awp_nilrow 5 1 ?_
  refine awp_loopS (S := Nat × Option Addr × Nat) (fun q => frm 26 [(0, .x (.string (bs s))), (3, .x (.slice q.2.1 (slashL (s.take q.1)).length q.2.2)), (4, .x (.int .i64 q.1))]) (fun q => [.row q.2.1 (slashL (s.take q.1)).length q.2.2 5 1 (u8a (slashL (s.take q.1)))]) (fun q => q.1 ≤ s.length) (fun q => s.length - q.1) (0, none, 0) ?a (Nat.zero_le _) fun q hq => ?_
  case a => exact (Weak.mk' [] _ (List.Perm.refl _) (VwHs.refl _ _) (by (repeat' (first | exact VwL.nil | (refine VwL.cons ?_ ?_) | exact Vw.refl _ | exact Vw.top _ | fail))))
  obtain ⟨k, ad, cap⟩ := q
  simp only at hq
  have hsl := slashL_len (s.take k)
  rw [List.length_take] at hsl
  simp only [frm, List.replicate_succ, List.replicate_zero, List.foldl_cons, List.foldl_nil, List.set_cons_zero, List.set_cons_succ]
  by_cases hk : k < s.length
  · have hsu := Lib.hid (slashL_succ s k hk)
    (repeat' (first | with_reducible (first | refine awp_seq ?_ | refine awp_region ?_ | refine awp_block ?_ | refine awp_skip ?_ | refine awpL_nil ?_ | refine thenA_normal ?_ | refine inBlockA_normal ?_) | (refine awp_cond _ rfl (fun h => ?_) (fun h => ?_) <;> ((try (simp only [whn] at h)); first | (exfalso; omega; done) | skip)) | ((apply awpL_evl2 rfl); (case h => ((try (intro (hp : (_ : Bool) = true); ((try simp only [Bool.and_eq_true, Bool.not_eq_true', Bool.not_eq_true] at hp); (try simp only [hp, wte]); (try simp only [whn] at hp)))); (first | (apply Evl_k 0 rfl; (first | exact Evl_mv _ rfl | exact Evl_as _ rfl)) | (apply Evl_k 8 rfl; (exact Evl_index_str _ _ _ _ _ _ _ rfl rfl rfl (by kernel_rfl) rfl (by omega))) | (apply Evl_x; (case hs => (intro _ _ h; cases h)); (case hx => rfl); (case hrun => (intro w; simp [wtb, AV.val, go_sem]; (try go_bits); rfl)))))); (case hT => ((try simp (disch := assumption) only [wtn, getD_at, getq_at, List.append_eq, List.foldl_cons, List.foldl_nil, List.map_cons, List.map_nil, Nat.reduceAdd, Nat.reduceMul, Nat.reduceSub, ↓reduceIte, Nat.reduceEqDiff]); rfl))) | (refine awpL_cons rfl ?_; ((first | (refine Stp_k 13 rfl ?_; ((refine Stp_append _ _ _ _ _ _ _ _ _ _ _ _ _ _ rfl rfl FRow.out (Src.row _ rfl FRow.out) HElem.out (by first | rfl | fail) (fits _ _ (by omega) (by decide)) (fun ad cap => ?_)))) | (refine Stp_k 17 rfl ?_; ((refine Stp_buildSlice _ _ _ _ _ _ _ _ rfl HElem.out (by first | rfl | fail) rfl (by decide) rfl (fun b => ?_))))); apply awpL_cong; (case hT => ((try simp (disch := omega) only [wtn, getD_at, getq_at, List.append_eq, List.foldl_cons, List.foldl_nil, List.map_cons, List.map_nil, Nat.reduceAdd, Nat.reduceMul, Nat.reduceSub, ↓reduceIte, Nat.reduceEqDiff]); rfl)); (case hH => ((try simp (disch := omega) only [wtn, getD_at, getq_at, List.append_eq, List.foldl_cons, List.foldl_nil, List.map_cons, List.map_nil, Nat.reduceAdd, Nat.reduceMul, Nat.reduceSub, ↓reduceIte, Nat.reduceEqDiff]); rfl)))) | fail))
    · have e : slashL (s.take (k + 1)) = slashL (s.take k) ++ [92, s[k]] := by rw [hsu.out]; congr 1; unfold slB; rw [if_pos (by omega)]
      refine ⟨(k + 1, ad, cap), by simp only; omega, by simp only; omega, ?_⟩
      simp only [e, u8a_app, u8a_cons, u8a_nil, List.append_assoc, List.cons_append, List.nil_append, List.length_append, List.length_cons, List.length_nil]
      exact (Weak.mk' [_, _] [_] (List.Perm.refl _) (VwHs.refl _ _) (by (repeat' (first | exact VwL.nil | (refine VwL.cons ?_ ?_) | exact Vw.refl _ | exact Vw.top _ | fail))))
    · have e : slashL (s.take (k + 1)) = slashL (s.take k) ++ [s[k]] := by rw [hsu.out]; congr 1; unfold slB; rw [if_neg (by omega)]
      refine ⟨(k + 1, ad, cap), by simp only; omega, by simp only; omega, ?_⟩
      simp only [e, u8a_app, u8a_cons, u8a_nil, List.append_assoc, List.cons_append, List.nil_append, List.length_append, List.length_cons, List.length_nil]
      exact (Weak.mk' [_] [_] (List.Perm.refl _) (VwHs.refl _ _) (by (repeat' (first | exact VwL.nil | (refine VwL.cons ?_ ?_) | exact Vw.refl _ | exact Vw.top _ | fail))))
  · obtain rfl : k = s.length := by omega
    (repeat' (first | with_reducible (first | refine awp_seq ?_ | refine awp_region ?_ | refine awp_ret ?_ | refine awp_exit ?_ | refine awpL_nil ?_ | refine thenA_normal ?_ | refine thenA_exit ?_ | refine inBlockA_eq ?_) | (refine awp_cond _ rfl (fun h => ?_) (fun h => ?_) <;> first | (exact absurd h (by decide)) | ((try (simp only [whn] at h)); skip)) | ((apply awpL_evl2 rfl); (case h => ((try (intro (hp : (_ : Bool) = true); ((try simp only [Bool.and_eq_true, Bool.not_eq_true', Bool.not_eq_true] at hp); (try simp only [hp, wte]); (try simp only [whn] at hp)))); (first | (apply Evl_k 0 rfl; (first | exact Evl_mv _ rfl | exact Evl_as _ rfl)) | (apply Evl_k 12 rfl; (exact Evl_string _ _ 5 _ _ rfl (by kernel_rfl) (by kernel_rfl) (by kernel_rfl) (Src.row 0 rfl rfl))) | (apply Evl_x; (case hs => (intro _ _ h; cases h)); (case hx => rfl); (case hrun => (intro w; simp [wtb, AV.val, go_sem]; (try go_bits); rfl)))))); (case hT => ((try simp only [wtn, List.append_eq, List.foldl_cons, List.foldl_nil, List.map_cons, List.map_nil, Nat.reduceAdd, Nat.reduceMul, Nat.reduceSub, ↓reduceIte, Nat.reduceEqDiff]); rfl))) | fail))
    refine endA_ret _ _ (Res1 rfl (RV.tmp _) (Weak.mk' [_] [] (List.Perm.refl _) (VwHs.refl _ _) (by first | exact VwL.refl _ _ | fail))) ?_
    refine ⟨?_, rfl⟩
    simp only [ev, List.getD_cons_succ, List.getD_cons_zero, List.take_length]
end Go.Proofs.Ytfokgdmlecnpbaa
