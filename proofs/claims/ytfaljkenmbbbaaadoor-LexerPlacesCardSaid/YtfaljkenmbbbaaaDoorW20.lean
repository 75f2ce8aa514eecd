import Derived.Test.YtfaljkenmbbbaaaDoorW19
/- The reference's printer: signals, patterns. -/
namespace Go.Proofs.YtfaljkenmbbbaaaDoor
open Go.RowKit
set_option linter.unusedSimpArgs false
set_option linter.unusedVariables false
def sigNames : List (List UInt8) := [[72, 85, 80], [73, 78, 84], [81, 85, 73, 84], [85, 83, 82, 49], [85, 83, 82, 50], [84, 69, 82, 77]]
/-- The name of a signal. -/
def sigN (n : Int) : List UInt8 := match sigNames.find? (fun s => sigL s == n) with | some s => s | none => [63]
theorem find_first {α : Type} (l : List α) (p : α → Bool) (k : Nat) (h : k < l.length) (hn : ∀ x ∈ l.take k, p x = false) (hp : p l[k] = true) : l.find? p = some l[k] := by
  rw [List.find?_eq_some_iff_getElem]
  refine ⟨hp, k, h, rfl, fun j hj => ?_⟩
  rw [hn l[j] (List.mem_iff_getElem.2 ⟨j, by rw [List.length_take]; omega, by rw [List.getElem_take]⟩)]; rfl
theorem names_len : sigNames.length = 6 := rfl
set_option maxRecDepth 100000 in
set_option maxHeartbeats 8000000 in
theorem signame_s (n : Int) : Spec Tryd.prog 70 [] [.x (.int .i64 n)] (fun r H' => r = .x (.string (bs (sigN n))) ∧ H' = []) := by
  refine Spec_of Tryd.func70 rfl ?_
  simp only [Tryd.ntmps70, List.length_cons, List.length_nil, List.replicate_succ, List.replicate_zero, List.cons_append, List.nil_append, Nat.reduceAdd, Nat.reduceSub]
  (repeat' (first | with_reducible (first | refine awp_seq ?_ | refine awp_region ?_ | refine awp_block ?_ | refine awpL_nil ?_ | refine thenA_normal ?_) | ((apply awpL_evl2 rfl); (case h => ((try (intro (hp : (_ : Bool) = true); ((try simp only [Bool.and_eq_true, Bool.not_eq_true', Bool.not_eq_true] at hp); (try simp only [hp, wte]); (try simp only [whn] at hp)))); ((apply Evl_k 0 rfl; (exact Evl_as _ rfl))))); (case hT => ((try simp only [wtn, List.append_eq, List.foldl_cons, List.foldl_nil, List.map_cons, List.map_nil, Nat.reduceAdd, Nat.reduceMul, Nat.reduceSub, ↓reduceIte, Nat.reduceEqDiff]); rfl))) | (refine awpL_cons rfl ?_; (((refine Stp_k 17 rfl ?_; ((refine Stp_buildSlice _ _ _ _ _ _ _ _ rfl HElem.out (by first | rfl | fail) rfl (by decide) rfl (fun b => ?_))))); apply awpL_cong; (case hT => ((try simp only [wtn, List.append_eq, List.foldl_cons, List.foldl_nil, List.map_cons, List.map_nil, Nat.reduceAdd, Nat.reduceMul, Nat.reduceSub, ↓reduceIte, Nat.reduceEqDiff]); rfl)); (case hH => ((try simp only [wtn, List.append_eq, List.foldl_cons, List.foldl_nil, List.map_cons, List.map_nil, Nat.reduceAdd, Nat.reduceMul, Nat.reduceSub, ↓reduceIte, Nat.reduceEqDiff]); rfl)))) | fail))
  refine awp_loopS (S := Nat) (fun k => frm 23 [(0, .x (.int .i64 n)), (3, .x (.slice (some ⟨b, 0, none⟩) 6 6)), (4, .x (.int .i64 k))]) (fun _ => [.row (some ⟨b, 0, none⟩) 6 6 9 1 (sa sigNames)]) (fun k => k ≤ 6 ∧ ∀ x ∈ sigNames.take k, (sigL x == n) = false) (fun k => 6 - k) 0 (Weak.mk' [] _ (List.Perm.refl _) (VwHs.refl _ _) (by (repeat' (first | exact VwL.nil | (refine VwL.cons ?_ ?_) | exact Vw.refl _ | exact Vw.top _ | fail)))) ⟨Nat.zero_le _, by simp⟩ fun k hk => ?_
  obtain ⟨hk, hn⟩ := hk
  have hn' := Lib.hid hn
  clear hn
  have hnl := names_len
  simp only [frm, List.replicate_succ, List.replicate_zero, List.foldl_cons, List.foldl_nil, List.set_cons_zero, List.set_cons_succ]
  (repeat' (first | with_reducible (first | refine awp_seq ?_ | refine awp_region ?_ | refine awp_block ?_ | refine awp_ret ?_ | refine awp_skip ?_ | refine awp_exit ?_ | refine awpL_nil ?_ | refine thenA_normal ?_ | refine thenA_exit ?_ | refine thenA_ret ?_ | refine inBlockA_eq ?_ | refine inBlockA_normal ?_ | refine inBlockA_ret ?_) | (refine awp_cond _ rfl (fun h => ?_) (fun h => ?_) <;> ((try (simp only [whn] at h)); skip)) | ((apply awpL_evl2 rfl); (case h => ((try (intro (hp : (_ : Bool) = true); ((try simp only [Bool.and_eq_true, Bool.not_eq_true', Bool.not_eq_true] at hp); (try simp only [hp, wte]); (try simp only [whn] at hp)))); (first | (apply Evl_k 0 rfl; (first | exact Evl_mv _ rfl | exact Evl_as _ rfl)) | (apply Evl_k 6 rfl; (exact Evl_load_row _ _ _ _ _ _ _ _ _ _ _ _ rfl rfl FRow.out HAgg.out (by first | (simp [wlq]; omega) | fail) (by first | (simp [wlq]; omega) | fail))) | (apply Evl_k 7 rfl; (exact Evl_index_own _ _ _ _ _ _ _ _ _ _ _ _ rfl rfl rfl HEl.out rfl (by first | omega | fail))) | (apply Evl_k 11 rfl; (exact Evl_call 82 Tryd.f82 _ _ rfl rfl Tryd.func82 (by decide) rfl (VwL.refl _ _) (signal_s _))) | (apply Evl_x; (case hs => (intro _ _ h; cases h)); (case hx => rfl); (case hrun => (intro w; simp [wtb, AV.val, go_sem]; (try go_bits); rfl)))))); (case hT => ((try simp (disch := omega) only [wtn, sa_drop, List.append_eq, List.foldl_cons, List.foldl_nil, List.map_cons, List.map_nil, Nat.reduceAdd, Nat.reduceMul, Nat.reduceSub, ↓reduceIte, Nat.reduceEqDiff]); rfl))) | fail))
  · refine endA_ret _ _ (Res1 rfl (RV.tmp _) (Weak.mk' [_] [] (List.Perm.refl _) (VwHs.refl _ _) (by first | exact VwL.refl _ _ | fail))) ?_
    refine ⟨?_, rfl⟩
    unfold sigN
    rw [find_first _ _ k (by omega) hn'.out (by simp [h])]
    rfl
  · exact ⟨k + 1, by omega, ⟨by omega, by rw [take_snoc' _ k (by omega)]; intro x hx; rcases List.mem_append.1 hx with hx | hx; exact hn'.out x hx; rw [List.mem_singleton] at hx; subst hx; exact beq_eq_false_iff_ne.2 h⟩, (Weak.mk' [] _ (List.Perm.refl _) (VwHs.refl _ _) (by (repeat' (first | exact VwL.nil | (refine VwL.cons ?_ ?_) | exact Vw.refl _ | exact Vw.top _ | fail))))⟩
  · refine endA_ret _ _ (Res1 rfl (RV.tmp _) (Weak.mk' [_] [] (List.Perm.refl _) (VwHs.refl _ _) (by first | exact VwL.refl _ _ | fail))) ?_
    refine ⟨?_, rfl⟩
    unfold sigN
    have hn := hn'.out
    rw [List.take_of_length_le (by omega)] at hn
    have : sigNames.find? (fun s => sigL s == n) = none := by rw [List.find?_eq_none]; intro x hx; rw [hn x hx]; simp
    rw [this]
    rfl
def slB (b : UInt8) : List UInt8 := if b.toNat = 47 then [92, b] else [b]
theorem slB_len (b : UInt8) : (slB b).length ≤ 2 := by unfold slB; split <;> simp
/-- A pattern with a backslash ahead of each slash. -/
def slashL (s : List UInt8) : List UInt8 := s.flatMap slB
theorem slashL_succ (s : List UInt8) (k : Nat) (h : k < s.length) : slashL (s.take (k + 1)) = slashL (s.take k) ++ slB s[k] := by
  unfold slashL; rw [take_snoc' s k h, List.flatMap_append]; congr 1; simp
theorem slashL_len (s : List UInt8) : (slashL s).length ≤ 2 * s.length := by
  unfold slashL
  induction s with
  | nil => simp
  | cons b s ih => have := slB_len b; simp only [List.flatMap_cons, List.length_append, List.length_cons]; omega
set_option maxRecDepth 100000 in
set_option maxHeartbeats 8000000 in
theorem slashed13_s (s : List UInt8) (hl : s.length ≤ 1000000) : Spec Tryd.prog 67 [] [.x (.string (bs s))] (fun r H' => r = .x (.string (bs (slashL s))) ∧ H' = []) := by
  refine Spec_of Tryd.func67 rfl ?_
  simp only [Tryd.ntmps67, List.length_cons, List.length_nil, List.replicate_succ, List.replicate_zero, List.cons_append, List.nil_append, Nat.reduceAdd, Nat.reduceSub]
  (repeat' (first | with_reducible (first | refine awp_seq ?_ | refine awp_region ?_ | refine awp_block ?_ | refine awpL_nil ?_ | refine thenA_normal ?_) | ((apply awpL_evl2 rfl); (case h => ((try (intro (hp : (_ : Bool) = true); ((try simp only [Bool.and_eq_true, Bool.not_eq_true', Bool.not_eq_true] at hp); (try simp only [hp, wte]); (try simp only [whn] at hp)))); ((apply Evl_k 0 rfl; (exact Evl_as _ rfl))))); (case hT => ((try simp only [wtn, List.append_eq, List.foldl_cons, List.foldl_nil, List.map_cons, List.map_nil, Nat.reduceAdd, Nat.reduceMul, Nat.reduceSub, ↓reduceIte, Nat.reduceEqDiff]); rfl))) | fail))
  refine awp_nilrow 5 1 ?_
  refine awp_loopS (S := Nat × Option Addr × Nat) (fun q => frm 26 [(0, .x (.string (bs s))), (3, .x (.slice q.2.1 (slashL (s.take q.1)).length q.2.2)), (4, .x (.int .i64 q.1))]) (fun q => [.row q.2.1 (slashL (s.take q.1)).length q.2.2 5 1 (u8a (slashL (s.take q.1)))]) (fun q => q.1 ≤ s.length) (fun q => s.length - q.1) (0, none, 0) ?a (Nat.zero_le _) fun q hq => ?_
  case a => exact (Weak.mk' [] _ (List.Perm.refl _) (VwHs.refl _ _) (by (repeat' (first | exact VwL.nil | (refine VwL.cons ?_ ?_) | exact Vw.refl _ | exact Vw.top _ | fail))))
  obtain ⟨k, ad, cap⟩ := q
  simp only at hq
  have hsl := slashL_len (s.take k)
  rw [List.length_take] at hsl
  simp only [frm, List.replicate_succ, List.replicate_zero, List.foldl_cons, List.foldl_nil, List.set_cons_zero, List.set_cons_succ]
  by_cases hk : k < s.length
  · have hsu := Lib.hid (slashL_succ s k hk)
    (repeat' (first | with_reducible (first | refine awp_seq ?_ | refine awp_region ?_ | refine awp_block ?_ | refine awp_skip ?_ | refine awpL_nil ?_ | refine thenA_normal ?_ | refine inBlockA_normal ?_) | (refine awp_cond _ rfl (fun h => ?_) (fun h => ?_) <;> ((try (simp only [whn] at h)); first | (exfalso; omega; done) | skip)) | ((apply awpL_evl2 rfl); (case h => ((try (intro (hp : (_ : Bool) = true); ((try simp only [Bool.and_eq_true, Bool.not_eq_true', Bool.not_eq_true] at hp); (try simp only [hp, wte]); (try simp only [whn] at hp)))); (first | (apply Evl_k 0 rfl; (first | exact Evl_mv _ rfl | exact Evl_as _ rfl)) | (apply Evl_k 8 rfl; (exact Evl_index_str _ _ _ _ _ _ _ rfl rfl rfl (by kernel_rfl) rfl (by omega))) | (apply Evl_x; (case hs => (intro _ _ h; cases h)); (case hx => rfl); (case hrun => (intro w; simp [wtb, AV.val, go_sem]; (try go_bits); rfl)))))); (case hT => ((try simp (disch := assumption) only [wtn, getD_at, getq_at, List.append_eq, List.foldl_cons, List.foldl_nil, List.map_cons, List.map_nil, Nat.reduceAdd, Nat.reduceMul, Nat.reduceSub, ↓reduceIte, Nat.reduceEqDiff]); rfl))) | (refine awpL_cons rfl ?_; ((first | (refine Stp_k 13 rfl ?_; ((refine Stp_append _ _ _ _ _ _ _ _ _ _ _ _ _ _ rfl rfl FRow.out (Src.row _ rfl FRow.out) HElem.out (by first | rfl | fail) (fits _ _ (by omega) (by decide)) (fun ad cap => ?_)))) | (refine Stp_k 17 rfl ?_; ((refine Stp_buildSlice _ _ _ _ _ _ _ _ rfl HElem.out (by first | rfl | fail) rfl (by decide) rfl (fun b => ?_))))); apply awpL_cong; (case hT => ((try simp (disch := omega) only [wtn, getD_at, getq_at, List.append_eq, List.foldl_cons, List.foldl_nil, List.map_cons, List.map_nil, Nat.reduceAdd, Nat.reduceMul, Nat.reduceSub, ↓reduceIte, Nat.reduceEqDiff]); rfl)); (case hH => ((try simp (disch := omega) only [wtn, getD_at, getq_at, List.append_eq, List.foldl_cons, List.foldl_nil, List.map_cons, List.map_nil, Nat.reduceAdd, Nat.reduceMul, Nat.reduceSub, ↓reduceIte, Nat.reduceEqDiff]); rfl)))) | fail))
    · have e : slashL (s.take (k + 1)) = slashL (s.take k) ++ [92, s[k]] := by rw [hsu.out]; congr 1; unfold slB; rw [if_pos (by omega)]
      refine ⟨(k + 1, ad, cap), by simp only; omega, by simp only; omega, ?_⟩
      simp only [e, u8a_app, u8a_cons, u8a_nil, List.append_assoc, List.cons_append, List.nil_append, List.length_append, List.length_cons, List.length_nil]
      exact (Weak.mk' [_, _] [_] (List.Perm.refl _) (VwHs.refl _ _) (by (repeat' (first | exact VwL.nil | (refine VwL.cons ?_ ?_) | exact Vw.refl _ | exact Vw.top _ | fail))))
    · have e : slashL (s.take (k + 1)) = slashL (s.take k) ++ [s[k]] := by rw [hsu.out]; congr 1; unfold slB; rw [if_neg (by omega)]
      refine ⟨(k + 1, ad, cap), by simp only; omega, by simp only; omega, ?_⟩
      simp only [e, u8a_app, u8a_cons, u8a_nil, List.append_assoc, List.cons_append, List.nil_append, List.length_append, List.length_cons, List.length_nil]
      exact (Weak.mk' [_] [_] (List.Perm.refl _) (VwHs.refl _ _) (by (repeat' (first | exact VwL.nil | (refine VwL.cons ?_ ?_) | exact Vw.refl _ | exact Vw.top _ | fail))))
  · obtain rfl : k = s.length := by omega
    (repeat' (first | with_reducible (first | refine awp_seq ?_ | refine awp_region ?_ | refine awp_ret ?_ | refine awp_exit ?_ | refine awpL_nil ?_ | refine thenA_normal ?_ | refine thenA_exit ?_ | refine inBlockA_eq ?_) | (refine awp_cond _ rfl (fun h => ?_) (fun h => ?_) <;> first | (exact absurd h (by decide)) | ((try (simp only [whn] at h)); skip)) | ((apply awpL_evl2 rfl); (case h => ((try (intro (hp : (_ : Bool) = true); ((try simp only [Bool.and_eq_true, Bool.not_eq_true', Bool.not_eq_true] at hp); (try simp only [hp, wte]); (try simp only [whn] at hp)))); (first | (apply Evl_k 0 rfl; (first | exact Evl_mv _ rfl | exact Evl_as _ rfl)) | (apply Evl_k 12 rfl; (exact Evl_string _ _ 5 _ _ rfl (by kernel_rfl) (by kernel_rfl) (by kernel_rfl) (Src.row 0 rfl rfl))) | (apply Evl_x; (case hs => (intro _ _ h; cases h)); (case hx => rfl); (case hrun => (intro w; simp [wtb, AV.val, go_sem]; (try go_bits); rfl)))))); (case hT => ((try simp only [wtn, List.append_eq, List.foldl_cons, List.foldl_nil, List.map_cons, List.map_nil, Nat.reduceAdd, Nat.reduceMul, Nat.reduceSub, ↓reduceIte, Nat.reduceEqDiff]); rfl))) | fail))
    refine endA_ret _ _ (Res1 rfl (RV.tmp _) (Weak.mk' [_] [] (List.Perm.refl _) (VwHs.refl _ _) (by first | exact VwL.refl _ _ | fail))) ?_
    refine ⟨?_, rfl⟩
    simp only [ev, List.getD_cons_succ, List.getD_cons_zero, List.take_length]
end Go.Proofs.YtfaljkenmbbbaaaDoor
/- The reference's printer: a job's lines, and how long they are. -/
namespace Go.Proofs.YtfaljkenmbbbaaaDoor
open Go.RowKit
set_option linter.unusedSimpArgs false
set_option linter.unusedVariables false
theorem decimal_i (v : Int) (h0 : 0 ≤ v) (h1 : v ≤ 18446744073709551615) : Spec Tryd.prog 69 [] [.x (.int .u64 v)] (fun r H' => r = .x (.string (bs (decL v.toNat))) ∧ H' = []) := by
  have := decimal_s v.toNat (by omega)
  rwa [show ((v.toNat : Nat) : Int) = v by omega] at this
theorem dec_le (v : Int) (h1 : v ≤ 18446744073709551615) : (decL v.toNat).length ≤ 20 := decL_len2 _ (by omega)
theorem quoteL_len (s : List UInt8) : (quoteL s).length ≤ 4 * s.length + 2 := by
  unfold quoteL; rw [List.length_append]; have := escs_len s; simp; omega
theorem sigN_len (n : Int) : (sigN n).length ≤ 4 := by
  unfold sigN
  cases h : sigNames.find? (fun s => sigL s == n) with
  | none => simp
  | some s =>
    have := List.mem_of_find?_eq_some h
    simp only [sigNames, List.mem_cons, List.not_mem_nil, or_false] at this
    rcases this with rfl | rfl | rfl | rfl | rfl | rfl <;> simp
theorem policyL_len (n : Int) : (policyL n).length ≤ 10 := by
  unfold policyL; repeat' (first | split | (simp; done) | fail)
set_option maxRecDepth 100000 in
set_option maxHeartbeats 8000000 in
theorem job13_s (j : JF) (hj : JSmall j) : Spec Tryd.prog 49 [] [.agg j.cells] (fun r H' => ∃ s, r = .x (.string (bs s)) ∧ H' = [] ∧ s.length ≤ 900) := by
  obtain ⟨j1, j2, j3, j4, j5, j6, j7, j8, j9, j10, j11, j12, j13, j14⟩ := hj
  have j4' := Lib.hid j4
  have j6' := Lib.hid j6
  have j9' := Lib.hid j9
  clear j4 j6 j9
  have q1 := quoteL_len j.run
  have q2 := slashL_len j.ready
  have q3 := policyL_len j.restart
  have q4 := dec_le j.base j10.2
  have q5 := dec_le j.cap j11.2
  have q6 := dec_le j.stable j12.2
  have q7 := dec_le j.window j13.2
  have qb : U64 (if 0 < j.burst then j.burst else 0) := by unfold U64; have := j14.1; have := j14.2; split <;> omega
  have q8 := dec_le _ qb.2
  unfold JF.cells
  refine Spec_of Tryd.func49 rfl ?_
  simp only [Tryd.ntmps49, List.length_cons, List.length_nil, List.replicate_succ, List.replicate_zero, List.cons_append, List.nil_append, Nat.reduceAdd, Nat.reduceSub]
  (repeat' (first | with_reducible (first | refine awp_seq ?_ | refine awp_region ?_ | refine awp_block ?_ | refine awpL_nil ?_ | refine dr_nil ?_ | refine thenA_normal ?_) | (with_reducible refine awp_drawnQ mixed ?_ ?_; (decide +kernel)) | ((first | apply awpL_evl2 rfl | apply dr_evl2 rfl); (case h => ((try (intro (hp : (_ : Bool) = true); ((try simp only [Bool.and_eq_true, Bool.not_eq_true', Bool.not_eq_true] at hp); (try simp only [hp, wte]); (try simp only [whn] at hp)))); (first | (apply Evl_k 0 rfl; (exact Evl_as _ rfl)) | (apply Evl_k 5 rfl; (exact Evl_field_x _ _ _ _ _ _ rfl rfl HFld.out)) | (apply Evl_k 6 rfl; (exact Evl_load _ _ _ _ _ _ _ _ rfl rfl FBox.out HAgg.out (by first | exact Nat.le_of_ble_eq_true rfl | fail) (by first | exact Nat.le_of_ble_eq_true rfl | fail))) | (apply Evl_k 11 rfl; (exact Evl_call 18 Tryd.f18 _ _ rfl rfl Tryd.func18 (by decide) rfl (VwL.refl _ _) (quote_s j.run (by omega)))) | (apply Evl_k 12 rfl; (exact Evl_concat _ _ _ _ rfl rfl rfl (by simp; omega)))))); (case hT => ((try simp only [wtn, List.append_eq, List.foldl_cons, List.foldl_nil, List.map_cons, List.map_nil, Nat.reduceAdd, Nat.reduceMul, Nat.reduceSub, ↓reduceIte, Nat.reduceEqDiff]); rfl))) | (refine awpL_cons rfl ?_; (((refine Stp_k 15 rfl ?_; ((refine Stp_box _ _ rfl (by first | rfl | fail) (fun b => ?_))))); apply awpL_cong; (case hT => ((try simp only [wtn, List.append_eq, List.foldl_cons, List.foldl_nil, List.map_cons, List.map_nil, Nat.reduceAdd, Nat.reduceMul, Nat.reduceSub, ↓reduceIte, Nat.reduceEqDiff]); rfl)); (case hH => ((try simp only [wtn, List.append_eq, List.foldl_cons, List.foldl_nil, List.map_cons, List.map_nil, Nat.reduceAdd, Nat.reduceMul, Nat.reduceSub, ↓reduceIte, Nat.reduceEqDiff]); rfl)))) | fail))
  apply awp_loopS (S := Nat × List UInt8) (fun q => frm 143 [(1, .x (.pointer (some ⟨b, 0, none⟩))), (3, .x (.string (bs q.2))), (4, .x (.int .i64 q.1))]) (fun _ => [.box b [.x (.string (bs j.name)), .x (.string (bs j.run)), .sq j.env.length (ea j.env), .sq j.needs.length (sa j.needs), .x (.bool j.hasr), .x (.string (bs j.ready)), .x (.int .i64 j.restart), .x (.int .u64 j.base), .x (.int .u64 j.cap), .x (.int .u64 j.stable), .x (.int .i64 j.burst), .x (.int .u64 j.window), .sq j.ladder.length (ra j.ladder), .x (.int .i64 j.line), .x (.int .i64 j.col)]]) (fun q => q.1 ≤ j.env.length ∧ q.2.length ≤ 100 + 60 * q.1) (fun q => j.env.length - q.1) (0, _)
  case h0 => exact (Weak.mk' [] _ (List.Perm.refl _) (VwHs.refl _ _) (by (repeat' (first | exact VwL.nil | (refine VwL.cons ?_ ?_) | exact Vw.refl _ | exact Vw.top _ | fail))))
  case hi => exact ⟨Nat.zero_le _, by simp; omega⟩
  rintro ⟨i, s⟩ ⟨hi, hs⟩
  simp only at hi hs
  simp only [frm, List.replicate_succ, List.replicate_zero, List.foldl_cons, List.foldl_nil, List.set_cons_zero, List.set_cons_succ]
  by_cases hlt : i < j.env.length
  · have hp := j4'.out j.env[i] (List.getElem_mem hlt)
    have hp2 := quoteL_len j.env[i].2
    (repeat' (first | with_reducible (first | refine awp_seq ?_ | refine awp_region ?_ | refine awp_block ?_ | refine awp_skip ?_ | refine awpL_nil ?_ | refine dr_nil ?_ | refine thenA_normal ?_ | refine inBlockA_normal ?_) | (with_reducible refine awp_drawnQ mixed ?_ ?_; (decide +kernel)) | (refine awp_cond _ rfl (fun h => ?_) (fun h => ?_) <;> ((try (simp only [whn] at h)); first | (exfalso; omega; done) | skip)) | ((first | apply awpL_evl2 rfl | apply dr_evl2 rfl); (case h => ((try (intro (hp : (_ : Bool) = true); ((try simp only [Bool.and_eq_true, Bool.not_eq_true', Bool.not_eq_true] at hp); (try simp only [hp, wte]); (try simp only [whn] at hp)))); (first | (apply Evl_k 0 rfl; (first | exact Evl_mv _ rfl | exact Evl_as _ rfl)) | (apply Evl_k 3 rfl; (exact Evl_len _ _ _ _ _ _ HEl.out rfl rfl)) | (apply Evl_k 5 rfl; (first | exact Evl_field_x _ _ _ _ _ _ rfl rfl HFld.out | exact Evl_field_at _ _ _ _ _ rfl rfl HFld.out)) | (apply Evl_k 6 rfl; (first | exact Evl_load_at _ _ _ _ _ rfl rfl HAgg.out (by first | exact Nat.le_of_ble_eq_true rfl | fail) (by first | exact Nat.le_of_ble_eq_true rfl | fail) | exact Evl_load _ _ _ _ _ _ _ _ rfl rfl FBox.out HAgg.out (by first | exact Nat.le_of_ble_eq_true rfl | fail) (by first | exact Nat.le_of_ble_eq_true rfl | fail))) | (apply Evl_k 7 rfl; (exact Evl_index_sq _ _ _ _ _ _ _ _ _ _ rfl rfl rfl HEl.out rfl (by first | omega | fail) (by simp; first | omega | fail))) | (apply Evl_k 11 rfl; (exact Evl_call 18 Tryd.f18 _ _ rfl rfl Tryd.func18 (by decide) rfl (VwL.refl _ _) (quote_s _ (by omega)))) | (apply Evl_k 12 rfl; (exact Evl_concat _ _ _ _ rfl rfl rfl (by simp; omega))) | (apply Evl_x; (case hs => (intro _ _ h; cases h)); (case hx => rfl); (case hrun => (intro w; simp [wtb, AV.val, go_sem]; (try go_bits); rfl)))))); (case hT => ((try simp (disch := assumption) only [wtn, ea_drop, List.append_eq, List.foldl_cons, List.foldl_nil, List.map_cons, List.map_nil, Nat.reduceAdd, Nat.reduceMul, Nat.reduceSub, ↓reduceIte, Nat.reduceEqDiff]); rfl))) | fail))
    exact ⟨(i + 1, s ++ [32, 32, 101, 110, 118, 32] ++ j.env[i].1 ++ [32, 61, 32] ++ quoteL j.env[i].2 ++ [10]), by simp only; omega, ⟨by simp only; omega, by simp; omega⟩, (Weak.mk' [] _ (List.Perm.refl _) (VwHs.refl _ _) (by (repeat' (first | exact VwL.nil | (refine VwL.cons ?_ ?_) | exact Vw.refl _ | exact Vw.top _ | fail))))⟩
  · (repeat' (first | with_reducible (first | refine awp_seq ?_ | refine awp_region ?_ | refine awp_block ?_ | refine awp_exit ?_ | refine awpL_nil ?_ | refine thenA_normal ?_ | refine thenA_exit ?_ | refine inBlockA_eq ?_) | (refine awp_cond _ rfl (fun h => ?_) (fun h => ?_) <;> ((try (simp only [whn] at h)); first | (exfalso; omega; done) | skip)) | ((apply awpL_evl2 rfl); (case h => ((try (intro (hp : (_ : Bool) = true); ((try simp only [Bool.and_eq_true, Bool.not_eq_true', Bool.not_eq_true] at hp); (try simp only [hp, wte]); (try simp only [whn] at hp)))); (first | (apply Evl_k 0 rfl; (first | exact Evl_mv _ rfl | exact Evl_as _ rfl)) | (apply Evl_k 3 rfl; (exact Evl_len _ _ _ _ _ _ HEl.out rfl rfl)) | (apply Evl_k 5 rfl; (exact Evl_field_x _ _ _ _ _ _ rfl rfl HFld.out)) | (apply Evl_k 6 rfl; (exact Evl_load _ _ _ _ _ _ _ _ rfl rfl FBox.out HAgg.out (by first | exact Nat.le_of_ble_eq_true rfl | fail) (by first | exact Nat.le_of_ble_eq_true rfl | fail))) | (apply Evl_x; (case hs => (intro _ _ h; cases h)); (case hx => rfl); (case hrun => (intro w; simp [wtb, AV.val, go_sem]; (try go_bits); rfl)))))); (case hT => ((try simp only [wtn, List.append_eq, List.foldl_cons, List.foldl_nil, List.map_cons, List.map_nil, Nat.reduceAdd, Nat.reduceMul, Nat.reduceSub, ↓reduceIte, Nat.reduceEqDiff]); rfl))) | fail))
    apply awp_loopS (S := Nat × List UInt8) (fun q => frm 143 [(1, .x (.pointer (some ⟨b, 0, none⟩))), (3, .x (.string (bs q.2))), (5, .x (.int .i64 q.1))]) (fun _ => [.box b [.x (.string (bs j.name)), .x (.string (bs j.run)), .sq j.env.length (ea j.env), .sq j.needs.length (sa j.needs), .x (.bool j.hasr), .x (.string (bs j.ready)), .x (.int .i64 j.restart), .x (.int .u64 j.base), .x (.int .u64 j.cap), .x (.int .u64 j.stable), .x (.int .i64 j.burst), .x (.int .u64 j.window), .sq j.ladder.length (ra j.ladder), .x (.int .i64 j.line), .x (.int .i64 j.col)]]) (fun q => q.1 ≤ j.needs.length ∧ q.2.length ≤ 220 + 20 * q.1) (fun q => j.needs.length - q.1) (0, _)
    case h0 => exact (Weak.mk' [] _ (List.Perm.refl _) (VwHs.refl _ _) (by (repeat' (first | exact VwL.nil | (refine VwL.cons ?_ ?_) | exact Vw.refl _ | exact Vw.top _ | fail))))
    case hi => exact ⟨Nat.zero_le _, by simp only; omega⟩
    clear hi hs
    rintro ⟨i, s⟩ ⟨hi, hs⟩
    simp only at hi hs
    simp only [frm, List.replicate_succ, List.replicate_zero, List.foldl_cons, List.foldl_nil, List.set_cons_zero, List.set_cons_succ]
    by_cases hlt2 : i < j.needs.length
    · have hp := j6'.out j.needs[i] (List.getElem_mem hlt2)
      (repeat' (first | with_reducible (first | refine awp_seq ?_ | refine awp_region ?_ | refine awp_block ?_ | refine awp_skip ?_ | refine awpL_nil ?_ | refine thenA_normal ?_ | refine inBlockA_normal ?_) | (refine awp_cond _ rfl (fun h => ?_) (fun h => ?_) <;> ((try (simp only [whn] at h)); first | (exfalso; omega; done) | skip)) | ((apply awpL_evl2 rfl); (case h => ((try (intro (hp : (_ : Bool) = true); ((try simp only [Bool.and_eq_true, Bool.not_eq_true', Bool.not_eq_true] at hp); (try simp only [hp, wte]); (try simp only [whn] at hp)))); (first | (apply Evl_k 0 rfl; (first | exact Evl_mv _ rfl | exact Evl_as _ rfl)) | (apply Evl_k 3 rfl; (exact Evl_len _ _ _ _ _ _ HEl.out rfl rfl)) | (apply Evl_k 5 rfl; (exact Evl_field_x _ _ _ _ _ _ rfl rfl HFld.out)) | (apply Evl_k 6 rfl; (first | exact Evl_load_at _ _ _ _ _ rfl rfl HAgg.out (by first | exact Nat.le_of_ble_eq_true rfl | fail) (by first | exact Nat.le_of_ble_eq_true rfl | fail) | exact Evl_load _ _ _ _ _ _ _ _ rfl rfl FBox.out HAgg.out (by first | exact Nat.le_of_ble_eq_true rfl | fail) (by first | exact Nat.le_of_ble_eq_true rfl | fail))) | (apply Evl_k 7 rfl; (exact Evl_index_sq _ _ _ _ _ _ _ _ _ _ rfl rfl rfl HEl.out rfl (by first | omega | fail) (by simp; first | omega | fail))) | (apply Evl_k 12 rfl; (exact Evl_concat _ _ _ _ rfl rfl rfl (by simp; omega))) | (apply Evl_x; (case hs => (intro _ _ h; cases h)); (case hx => rfl); (case hrun => (intro w; simp [wtb, AV.val, go_sem]; (try go_bits); rfl)))))); (case hT => ((try simp (disch := assumption) only [wtn, sa_drop, List.append_eq, List.foldl_cons, List.foldl_nil, List.map_cons, List.map_nil, Nat.reduceAdd, Nat.reduceMul, Nat.reduceSub, ↓reduceIte, Nat.reduceEqDiff]); rfl))) | fail))
      · exact ⟨(i + 1, s ++ [32, 32, 110, 101, 101, 100, 115, 32] ++ j.needs[i]), by simp only; omega, ⟨by simp only; omega, by simp; omega⟩, (Weak.mk' [] _ (List.Perm.refl _) (VwHs.refl _ _) (by (repeat' (first | exact VwL.nil | (refine VwL.cons ?_ ?_) | exact Vw.refl _ | exact Vw.top _ | fail))))⟩
      · exact ⟨(i + 1, s ++ [44, 32] ++ j.needs[i]), by simp only; omega, ⟨by simp only; omega, by simp; omega⟩, (Weak.mk' [] _ (List.Perm.refl _) (VwHs.refl _ _) (by (repeat' (first | exact VwL.nil | (refine VwL.cons ?_ ?_) | exact Vw.refl _ | exact Vw.top _ | fail))))⟩
    · (repeat' (first | with_reducible (first | refine awp_seq ?_ | refine awp_region ?_ | refine awp_block ?_ | refine awp_skip ?_ | refine awp_exit ?_ | refine awpL_nil ?_ | refine dr_nil ?_ | refine thenA_normal ?_ | refine thenA_exit ?_ | refine inBlockA_eq ?_) | (with_reducible refine awp_drawnQ mixed ?_ ?_; (decide +kernel)) | (refine awp_cond _ rfl (fun h => ?_) (fun h => ?_) <;> ((try (simp only [whn] at h)); first | (exfalso; omega; done) | skip)) | ((first | apply awpL_evl2 rfl | apply dr_evl2 rfl); (case h => ((try (intro (hp : (_ : Bool) = true); ((try simp only [Bool.and_eq_true, Bool.not_eq_true', Bool.not_eq_true] at hp); (try simp only [hp, wte]); (try simp only [whn] at hp)))); (first | (apply Evl_k 0 rfl; (first | exact Evl_mv _ rfl | exact Evl_as _ rfl)) | (apply Evl_k 3 rfl; (exact Evl_len _ _ _ _ _ _ HEl.out rfl rfl)) | (apply Evl_k 5 rfl; (exact Evl_field_x _ _ _ _ _ _ rfl rfl HFld.out)) | (apply Evl_k 6 rfl; (exact Evl_load _ _ _ _ _ _ _ _ rfl rfl FBox.out HAgg.out (by first | exact Nat.le_of_ble_eq_true rfl | fail) (by first | exact Nat.le_of_ble_eq_true rfl | fail))) | (apply Evl_k 11 rfl; (first | exact Evl_call 67 Tryd.f67 _ _ rfl rfl Tryd.func67 (by decide) rfl (VwL.refl _ _) (slashed13_s j.ready (by omega)) | exact Evl_call 68 Tryd.f68 _ _ rfl rfl Tryd.func68 (by decide) rfl (VwL.refl _ _) (policy_s _) | exact Evl_call 69 Tryd.f69 _ _ rfl rfl Tryd.func69 (by decide) rfl (VwL.refl _ _) (decimal_i _ (by first | exact j10.1 | exact j11.1 | exact j12.1 | exact j13.1 | exact qb.1 | fail) (by first | exact j10.2 | exact j11.2 | exact j12.2 | exact j13.2 | exact qb.2 | fail)))) | (apply Evl_k 12 rfl; (exact Evl_concat _ _ _ _ rfl rfl rfl (by simp; omega))) | (apply Evl_x; (case hs => (intro _ _ h; cases h)); (case hx => rfl); (case hrun => (intro w; simp [wtb, AV.val, go_sem]; (try go_bits); rfl)))))); (case hT => ((try simp only [wtn, List.append_eq, List.foldl_cons, List.foldl_nil, List.map_cons, List.map_nil, Nat.reduceAdd, Nat.reduceMul, Nat.reduceSub, ↓reduceIte, Nat.reduceEqDiff]); rfl))) | fail))
      all_goals
        apply awp_loopS (S := Nat × List UInt8) (fun q => frm 143 [(1, .x (.pointer (some ⟨b, 0, none⟩))), (3, .x (.string (bs q.2))), (6, .x (.int .i64 q.1))]) (fun _ => [.box b [.x (.string (bs j.name)), .x (.string (bs j.run)), .sq j.env.length (ea j.env), .sq j.needs.length (sa j.needs), .x (.bool j.hasr), .x (.string (bs j.ready)), .x (.int .i64 j.restart), .x (.int .u64 j.base), .x (.int .u64 j.cap), .x (.int .u64 j.stable), .x (.int .i64 j.burst), .x (.int .u64 j.window), .sq j.ladder.length (ra j.ladder), .x (.int .i64 j.line), .x (.int .i64 j.col)]]) (fun q => q.1 ≤ j.ladder.length ∧ q.2.length ≤ 660 + 40 * q.1) (fun q => j.ladder.length - q.1) (0, _)
        case h0 => exact (Weak.mk' [] _ (List.Perm.refl _) (VwHs.refl _ _) (by (repeat' (first | exact VwL.nil | (refine VwL.cons ?_ ?_) | exact Vw.refl _ | exact Vw.top _ | fail))))
        case hi => exact ⟨Nat.zero_le _, by simp; omega⟩
        clear hi hs
        rintro ⟨i, s⟩ ⟨hi, hs⟩
        simp only at hi hs
        simp only [frm, List.replicate_succ, List.replicate_zero, List.foldl_cons, List.foldl_nil, List.set_cons_zero, List.set_cons_succ]
        by_cases hlt3 : i < j.ladder.length
        · have hp := j9'.out j.ladder[i] (List.getElem_mem hlt3)
          have hp2 := sigN_len j.ladder[i].1
          have hp3 := dec_le j.ladder[i].2 hp.2
          (repeat' (first | with_reducible (first | refine awp_seq ?_ | refine awp_region ?_ | refine awp_block ?_ | refine awp_skip ?_ | refine awpL_nil ?_ | refine dr_nil ?_ | refine thenA_normal ?_ | refine inBlockA_normal ?_) | (with_reducible refine awp_drawnQ mixed ?_ ?_; (decide +kernel)) | (refine awp_cond _ rfl (fun h => ?_) (fun h => ?_) <;> ((try (simp only [whn] at h)); first | (exfalso; omega; done) | skip)) | ((first | apply awpL_evl2 rfl | apply dr_evl2 rfl); (case h => ((try (intro (hp : (_ : Bool) = true); ((try simp only [Bool.and_eq_true, Bool.not_eq_true', Bool.not_eq_true] at hp); (try simp only [hp, wte]); (try simp only [whn] at hp)))); (first | (apply Evl_k 0 rfl; (first | exact Evl_mv _ rfl | exact Evl_as _ rfl)) | (apply Evl_k 3 rfl; (exact Evl_len _ _ _ _ _ _ HEl.out rfl rfl)) | (apply Evl_k 5 rfl; (first | exact Evl_field_x _ _ _ _ _ _ rfl rfl HFld.out | exact Evl_field_at _ _ _ _ _ rfl rfl HFld.out)) | (apply Evl_k 6 rfl; (first | exact Evl_load_at _ _ _ _ _ rfl rfl HAgg.out (by first | exact Nat.le_of_ble_eq_true rfl | fail) (by first | exact Nat.le_of_ble_eq_true rfl | fail) | exact Evl_load _ _ _ _ _ _ _ _ rfl rfl FBox.out HAgg.out (by first | exact Nat.le_of_ble_eq_true rfl | fail) (by first | exact Nat.le_of_ble_eq_true rfl | fail))) | (apply Evl_k 7 rfl; (exact Evl_index_sq _ _ _ _ _ _ _ _ _ _ rfl rfl rfl HEl.out rfl (by first | omega | fail) (by simp; first | omega | fail))) | (apply Evl_k 11 rfl; (first | exact Evl_call 70 Tryd.f70 _ _ rfl rfl Tryd.func70 (by decide) rfl (VwL.refl _ _) (signame_s _) | exact Evl_call 69 Tryd.f69 _ _ rfl rfl Tryd.func69 (by decide) rfl (VwL.refl _ _) (decimal_i _ hp.1 hp.2))) | (apply Evl_k 12 rfl; (exact Evl_concat _ _ _ _ rfl rfl rfl (by simp; omega))) | (apply Evl_x; (case hs => (intro _ _ h; cases h)); (case hx => rfl); (case hrun => (intro w; simp [wtb, AV.val, go_sem]; (try go_bits); rfl)))))); (case hT => ((try simp (disch := assumption) only [wtn, ra_drop, List.append_eq, List.foldl_cons, List.foldl_nil, List.map_cons, List.map_nil, Nat.reduceAdd, Nat.reduceMul, Nat.reduceSub, ↓reduceIte, Nat.reduceEqDiff]); rfl))) | fail))
          · exact ⟨(i + 1, s ++ [44] ++ [32] ++ sigN j.ladder[i].1 ++ [32] ++ decL j.ladder[i].2.toNat), by simp only; omega, ⟨by simp only; omega, by simp; omega⟩, (Weak.mk' [] _ (List.Perm.refl _) (VwHs.refl _ _) (by (repeat' (first | exact VwL.nil | (refine VwL.cons ?_ ?_) | exact Vw.refl _ | exact Vw.top _ | fail))))⟩
          · exact ⟨(i + 1, s ++ [32] ++ sigN j.ladder[i].1 ++ [32] ++ decL j.ladder[i].2.toNat), by simp only; omega, ⟨by simp only; omega, by simp; omega⟩, (Weak.mk' [] _ (List.Perm.refl _) (VwHs.refl _ _) (by (repeat' (first | exact VwL.nil | (refine VwL.cons ?_ ?_) | exact Vw.refl _ | exact Vw.top _ | fail))))⟩
        · (repeat' (first | with_reducible (first | refine awp_seq ?_ | refine awp_region ?_ | refine awp_ret ?_ | refine awp_exit ?_ | refine awpL_nil ?_ | refine thenA_normal ?_ | refine thenA_exit ?_ | refine inBlockA_eq ?_) | (refine awp_cond _ rfl (fun h => ?_) (fun h => ?_) <;> ((try (simp only [whn] at h)); first | (exfalso; omega; done) | skip)) | ((apply awpL_evl2 rfl); (case h => ((try (intro (hp : (_ : Bool) = true); ((try simp only [Bool.and_eq_true, Bool.not_eq_true', Bool.not_eq_true] at hp); (try simp only [hp, wte]); (try simp only [whn] at hp)))); (first | (apply Evl_k 0 rfl; (first | exact Evl_mv _ rfl | exact Evl_as _ rfl)) | (apply Evl_k 3 rfl; (exact Evl_len _ _ _ _ _ _ HEl.out rfl rfl)) | (apply Evl_k 5 rfl; (exact Evl_field_x _ _ _ _ _ _ rfl rfl HFld.out)) | (apply Evl_k 6 rfl; (exact Evl_load _ _ _ _ _ _ _ _ rfl rfl FBox.out HAgg.out (by first | exact Nat.le_of_ble_eq_true rfl | fail) (by first | exact Nat.le_of_ble_eq_true rfl | fail))) | (apply Evl_k 12 rfl; (exact Evl_concat _ _ _ _ rfl rfl rfl (by simp; omega))) | (apply Evl_x; (case hs => (intro _ _ h; cases h)); (case hx => rfl); (case hrun => (intro w; simp [wtb, AV.val, go_sem]; (try go_bits); rfl)))))); (case hT => ((try simp only [wtn, List.append_eq, List.foldl_cons, List.foldl_nil, List.map_cons, List.map_nil, Nat.reduceAdd, Nat.reduceMul, Nat.reduceSub, ↓reduceIte, Nat.reduceEqDiff]); rfl))) | fail))
          refine endA_ret _ _ (Res1 rfl (RV.tmp _) (Weak.mk' [_] [] (List.Perm.refl _) (VwHs.refl _ _) (by first | exact VwL.refl _ _ | fail))) ?_
          exact ⟨_, rfl, rfl, by simp; omega⟩
end Go.Proofs.YtfaljkenmbbbaaaDoor
