import Derived.Test.YtdcjhndcklofoaaW17
import Derived.Test.YtdcjhndcklofoaaW18
/- The graph: Needs. -/
namespace Go.Proofs.Ytdcjhndcklofoaa
open Go.RowKit
set_option linter.unusedSimpArgs false
set_option linter.unusedVariables false
set_option maxRecDepth 100000 in
set_option maxHeartbeats 8000000 in
theorem isort_nil : Spec Try.prog 42 [] [.x (.slice none 0 0), .x (.int .i64 0), .x (.int .i64 0)] (fun r H' => H' = []) := by
  refine Spec_of Try.func42 rfl ?_
  simp only [Try.ntmps42, List.length_cons, List.length_nil, List.replicate_succ, List.replicate_zero, List.cons_append, List.nil_append, Nat.reduceAdd, Nat.reduceSub]
  (repeat' (first | with_reducible (first | refine awp_seq ?_ | refine awp_region ?_ | refine awp_block ?_ | refine awpL_nil ?_ | refine thenA_normal ?_) | ((apply awpL_evl2 rfl); (case h => ((try (intro (hp : (_ : Bool) = true); ((try simp only [Bool.and_eq_true, Bool.not_eq_true', Bool.not_eq_true] at hp); (try simp only [hp, wte]); (try simp only [whn] at hp)))); (first | (apply Evl_k 0 rfl; (first | exact Evl_mv _ rfl | exact Evl_as _ rfl)) | (apply Evl_x; (case hs => (intro _ _ h; cases h)); (case hx => rfl); (case hrun => (intro w; simp [wtb, AV.val, go_sem]; (try go_bits); rfl)))))); (case hT => ((try simp only [wtn, List.append_eq, List.foldl_cons, List.foldl_nil, List.map_cons, List.map_nil, Nat.reduceAdd, Nat.reduceMul, Nat.reduceSub, ↓reduceIte, Nat.reduceEqDiff]); rfl))) | fail))
  refine awp_loopS (S := Unit) (fun s => frm 49 [(0, .x (.slice none 0 0)), (1, .x (.int .i64 0)), (2, .x (.int .i64 0)), (6, .x (.int .i64 1))]) (fun s => []) (fun s => True) (fun s => 0) () (Weak.mk' [] _ (List.Perm.refl _) (VwHs.refl _ _) (by (repeat' (first | exact VwL.nil | (refine VwL.cons ?_ ?_) | exact Vw.refl _ | exact Vw.top _ | fail)))) trivial fun s hs => ?_
  simp only [frm, List.replicate_succ, List.replicate_zero, List.foldl_cons, List.foldl_nil, List.set_cons_zero, List.set_cons_succ]
  (repeat' (first | with_reducible (first | refine awp_seq ?_ | refine awp_region ?_ | refine awp_exit ?_ | refine awpL_nil ?_ | refine thenA_normal ?_ | refine thenA_exit ?_ | refine inBlockA_eq ?_) | (refine awp_cond _ rfl (fun h => ?_) (fun h => ?_) <;> first | (exact absurd h (by decide)) | ((try (simp only [whn] at h)); skip)) | ((apply awpL_evl2 rfl); (case h => ((try (intro (hp : (_ : Bool) = true); ((try simp only [Bool.and_eq_true, Bool.not_eq_true', Bool.not_eq_true] at hp); (try simp only [hp, wte]); (try simp only [whn] at hp)))); (first | (apply Evl_k 0 rfl; (exact Evl_mv _ rfl)) | (apply Evl_x; (case hs => (intro _ _ h; cases h)); (case hx => rfl); (case hrun => (intro w; simp [wtb, AV.val, go_sem]; (try go_bits); rfl)))))); (case hT => ((try simp only [wtn, List.append_eq, List.foldl_cons, List.foldl_nil, List.map_cons, List.map_nil, Nat.reduceAdd, Nat.reduceMul, Nat.reduceSub, ↓reduceIte, Nat.reduceEqDiff]); rfl))) | fail))
  exact endA_normal _ _ (Res0 rfl (Weak.mk' [] _ (List.Perm.refl _) (VwHs.refl _ _) (by (repeat' (first | exact VwL.nil | fail))))) rfl
set_option maxRecDepth 100000 in
set_option maxHeartbeats 8000000 in
theorem pdq_nil (m : Int) : Spec Try.prog 40 [] [.x (.slice none 0 0), .x (.int .i64 0), .x (.int .i64 0), .x (.int .i64 m)] (fun r H' => H' = []) := by
  refine Spec_of Try.func40 rfl ?_
  simp only [Try.ntmps40, List.length_cons, List.length_nil, List.replicate_succ, List.replicate_zero, List.cons_append, List.nil_append, Nat.reduceAdd, Nat.reduceSub]
  (repeat' (first | with_reducible (first | refine awp_seq ?_ | refine awp_region ?_ | refine awp_block ?_ | refine awpL_nil ?_ | refine thenA_normal ?_) | ((apply awpL_evl2 rfl); (case h => ((try (intro (hp : (_ : Bool) = true); ((try simp only [Bool.and_eq_true, Bool.not_eq_true', Bool.not_eq_true] at hp); (try simp only [hp, wte]); (try simp only [whn] at hp)))); ((apply Evl_k 0 rfl; (exact Evl_as _ rfl))))); (case hT => ((try simp only [wtn, List.append_eq, List.foldl_cons, List.foldl_nil, List.map_cons, List.map_nil, Nat.reduceAdd, Nat.reduceMul, Nat.reduceSub, ↓reduceIte, Nat.reduceEqDiff]); rfl))) | fail))
  refine awp_loopS (S := Unit) (fun s => frm 134 [(0, .x (.slice none 0 0)), (1, .x (.int .i64 0)), (2, .x (.int .i64 0)), (3, .x (.int .i64 m)), (8, .x (.bool true)), (9, .x (.bool true))]) (fun s => []) (fun s => True) (fun s => 0) () (Weak.mk' [] _ (List.Perm.refl _) (VwHs.refl _ _) (by (repeat' (first | exact VwL.nil | (refine VwL.cons ?_ ?_) | exact Vw.refl _ | fail)))) trivial fun s hs => ?_
  simp only [frm, List.replicate_succ, List.replicate_zero, List.foldl_cons, List.foldl_nil, List.set_cons_zero, List.set_cons_succ]
  (repeat' (first | with_reducible (first | refine awp_seq ?_ | refine awp_region ?_ | refine awp_block ?_ | refine awp_ret ?_ | refine awpL_nil ?_ | refine thenA_normal ?_ | refine thenA_ret ?_ | refine inBlockA_ret ?_) | (refine awp_cond _ rfl (fun h => ?_) (fun h => ?_) <;> first | (exact absurd h (by decide)) | ((try (simp only [whn] at h)); skip)) | ((apply awpL_evl2 rfl); (case h => ((try (intro (hp : (_ : Bool) = true); ((try simp only [Bool.and_eq_true, Bool.not_eq_true', Bool.not_eq_true] at hp); (try simp only [hp, wte]); (try simp only [whn] at hp)))); (first | (apply Evl_k 0 rfl; (first | exact Evl_mv _ rfl | exact Evl_as _ rfl)) | (apply Evl_x; (case hs => (intro _ _ h; cases h)); (case hx => rfl); (case hrun => (intro w; simp [wtb, AV.val, go_sem]; (try go_bits); rfl)))))); (case hT => ((try simp only [wtn, List.append_eq, List.foldl_cons, List.foldl_nil, List.map_cons, List.map_nil, Nat.reduceAdd, Nat.reduceMul, Nat.reduceSub, ↓reduceIte, Nat.reduceEqDiff]); rfl))) | (refine awpL_cons rfl ?_; (((refine Stp_k 11 rfl ?_; ((refine Stp_call 42 Try.f42 ([]) _ _ _ rfl rfl Try.func42 (by decide) rfl (List.Perm.refl _) (VwL.refl _ _) (isort_nil) ?_; rintro _ _ rfl)))); apply awpL_cong; (case hT => ((try simp only [wtn, List.append_eq, List.foldl_cons, List.foldl_nil, List.map_cons, List.map_nil, Nat.reduceAdd, Nat.reduceMul, Nat.reduceSub, ↓reduceIte, Nat.reduceEqDiff]); rfl)); (case hH => ((try simp only [wtn, List.append_eq, List.foldl_cons, List.foldl_nil, List.map_cons, List.map_nil, Nat.reduceAdd, Nat.reduceMul, Nat.reduceSub, ↓reduceIte, Nat.reduceEqDiff]); rfl)))) | fail))
  exact endA_ret _ _ (Res0 rfl (Weak.mk' [] _ (List.Perm.refl _) (VwHs.refl _ _) (by (repeat' (first | exact VwL.nil | fail))))) rfl
set_option maxRecDepth 100000 in
set_option maxHeartbeats 8000000 in
theorem sort_nil : Spec Try.prog 35 [] [.x (.slice none 0 0)] (fun r H' => H' = []) := by
  refine Spec_of Try.func35 rfl ?_
  simp only [Try.ntmps35, List.length_cons, List.length_nil, List.replicate_succ, List.replicate_zero, List.cons_append, List.nil_append, Nat.reduceAdd, Nat.reduceSub]
  (repeat' (first | with_reducible (first | refine awp_seq ?_ | refine awp_region ?_ | refine awpL_nil ?_ | refine thenA_normal ?_) | ((apply awpL_evl2 rfl); (case h => ((try (intro (hp : (_ : Bool) = true); ((try simp only [Bool.and_eq_true, Bool.not_eq_true', Bool.not_eq_true] at hp); (try simp only [hp, wte]); (try simp only [whn] at hp)))); (first | (apply Evl_k 0 rfl; (first | exact Evl_mv _ rfl | exact Evl_as _ rfl)) | (apply Evl_x; (case hs => (intro _ _ h; cases h)); (case hx => rfl); (case hrun => (intro w; simp [wtb, AV.val, go_sem]; (try go_bits); rfl)))))); (case hT => ((try simp only [wtn, List.append_eq, List.foldl_cons, List.foldl_nil, List.map_cons, List.map_nil, Nat.reduceAdd, Nat.reduceMul, Nat.reduceSub, ↓reduceIte, Nat.reduceEqDiff]); rfl))) | (refine awpL_cons rfl ?_; (((refine Stp_k 11 rfl ?_; (first | (refine Stp_call 41 Try.f41 ([]) _ _ _ rfl rfl Try.func41 (by decide) rfl (List.Perm.refl _) (VwL.refl _ _) (len_spec 0 (by decide)) ?_; rintro _ _ ⟨⟨m, rfl⟩, rfl⟩) | (refine Stp_call 40 Try.f40 ([]) _ _ _ rfl rfl Try.func40 (by decide) rfl (List.Perm.refl _) (VwL.refl _ _) (pdq_nil m) ?_; rintro _ _ rfl)))); apply awpL_cong; (case hT => ((try simp only [wtn, List.append_eq, List.foldl_cons, List.foldl_nil, List.map_cons, List.map_nil, Nat.reduceAdd, Nat.reduceMul, Nat.reduceSub, ↓reduceIte, Nat.reduceEqDiff]); rfl)); (case hH => ((try simp only [wtn, List.append_eq, List.foldl_cons, List.foldl_nil, List.map_cons, List.map_nil, Nat.reduceAdd, Nat.reduceMul, Nat.reduceSub, ↓reduceIte, Nat.reduceEqDiff]); rfl)))) | fail))
  exact endA_normal _ _ (Res0 rfl (Weak.mk' [] _ (List.Perm.refl _) (VwHs.refl _ _) (by (repeat' (first | exact VwL.nil | fail))))) rfl
theorem compact_nil : Spec Try.prog 36 [] [.x (.slice none 0 0)] (fun r H' => r = .x (.slice none 0 0) ∧ H' = []) := by
  refine Spec_of Try.func36 rfl ?_
  simp only [Try.ntmps36, List.length_cons, List.length_nil, List.replicate_succ, List.replicate_zero, List.cons_append, List.nil_append, Nat.reduceAdd, Nat.reduceSub]
  (repeat' (first | with_reducible (first | refine awp_seq ?_ | refine awp_region ?_ | refine awp_ret ?_ | refine awpL_nil ?_ | refine thenA_normal ?_ | refine thenA_ret ?_) | (refine awp_cond _ rfl (fun h => ?_) (fun h => ?_) <;> first | (exact absurd h (by decide)) | ((try (simp only [whn] at h)); skip)) | ((apply awpL_evl2 rfl); (case h => ((try (intro (hp : (_ : Bool) = true); ((try simp only [Bool.and_eq_true, Bool.not_eq_true', Bool.not_eq_true] at hp); (try simp only [hp, wte]); (try simp only [whn] at hp)))); (first | (apply Evl_k 0 rfl; (first | exact Evl_mv _ rfl | exact Evl_as _ rfl)) | (apply Evl_x; (case hs => (intro _ _ h; cases h)); (case hx => rfl); (case hrun => (intro w; simp [wtb, AV.val, go_sem]; (try go_bits); rfl)))))); (case hT => ((try simp only [wtn, List.append_eq, List.foldl_cons, List.foldl_nil, List.map_cons, List.map_nil, Nat.reduceAdd, Nat.reduceMul, Nat.reduceSub, ↓reduceIte, Nat.reduceEqDiff]); rfl))) | fail))
  refine endA_ret _ _ (Res1 rfl (RV.tmp _) (Weak.mk' [] _ (List.Perm.refl _) (VwHs.refl _ _) (VwL.refl _ _))) ?_
  exact ⟨rfl, rfl⟩
theorem compact_n (b cap n : Nat) (l : List Int) (hn : l.length = n) (hl : n ≤ 8796093022208) : Spec Try.prog 36 [irow b n cap l] [.x (.slice (some ⟨b, 0, none⟩) n cap)] (RowOf b cap (cmp l)) := by
  subst hn; exact compact_spec b cap l hl
theorem sort_n (b cap n : Nat) (l : List Int) (hn : l.length = n) (hl : n ≤ 8796093022208) : Spec Try.prog 35 [irow b n cap l] [.x (.slice (some ⟨b, 0, none⟩) n cap)] (fun r H' => SortedOf b n cap l H') := by
  subst hn; exact sort_any b cap l (by omega)
set_option maxRecDepth 100000 in
set_option maxHeartbeats 8000000 in
theorem needs_in (l : List JA) (i : Nat) (hi : i < l.length) (hl : l.length ≤ 1000000) (hm : (l[i]'hi).needs.length ≤ 8796093022208) : Spec Try.prog 32 [] [.sq l.length (ja l), .x (.int .i64 i)] (fun r H' => r = .sq (ndsTo l i l.length).length (ia (ndsTo l i l.length)) ∧ H' = []) := by
  refine Spec_of Try.func32 rfl ?_
  simp only [Try.ntmps32, List.length_cons, List.length_nil, List.replicate_succ, List.replicate_zero, List.cons_append, List.nil_append, Nat.reduceAdd, Nat.reduceSub]
  (repeat' (first | with_reducible (first | refine awp_seq ?_ | refine awp_region ?_ | refine awp_block ?_ | refine awp_skip ?_ | refine awpL_nil ?_ | refine thenA_normal ?_) | (refine awp_cond _ rfl (fun h => ?_) (fun h => ?_) <;> ((try (simp only [whn] at h)); first | (exfalso; omega; done) | skip)) | ((first | apply awpL_evl2 rfl | apply awpL_g2 _ _ rfl rfl rfl); (case h => ((try (intro (hp : (_ : Bool) = true); ((try simp only [Bool.and_eq_true, Bool.not_eq_true', Bool.not_eq_true] at hp); (try simp only [hp, wte]); (try simp only [whn] at hp)))); (first | (apply Evl_k 0 rfl; (first | exact Evl_mv _ rfl | exact Evl_as _ rfl)) | (apply Evl_k 1 rfl; (exact Evl_pickf _ _ _ rfl rfl)) | (apply Evl_k 3 rfl; (exact Evl_len _ _ _ _ _ _ HEl.out rfl rfl)) | (apply Evl_k 5 rfl; (exact Evl_field_at _ _ _ _ _ rfl rfl HFld.out)) | (apply Evl_k 6 rfl; (exact Evl_load_at _ _ _ _ _ rfl rfl HAgg.out (by first | exact Nat.le_of_ble_eq_true rfl | fail) (by first | exact Nat.le_of_ble_eq_true rfl | fail))) | (apply Evl_k 7 rfl; (exact Evl_index_sq _ _ _ _ _ _ _ _ _ _ rfl rfl rfl HEl.out rfl (by first | omega | fail) (by simp; first | omega | fail))) | (apply Evl_x; (case hs => (intro _ _ h; cases h)); (case hx => rfl); (case hrun => (intro w; simp [wtb, AV.val, go_sem]; (try go_bits); rfl)))))); (case hT => ((try simp (disch := assumption) only [wtn, ja_drop, JA.cells, List.append_eq, List.foldl_cons, List.foldl_nil, List.map_cons, List.map_nil, Nat.reduceAdd, Nat.reduceMul, Nat.reduceSub, ↓reduceIte, Nat.reduceEqDiff]); rfl))) | fail))
  refine awp_nilrow 3 1 ?_
  refine awp_loopS (S := Nat × Option Addr × Nat) (fun s => frm 41 [(0, .sq l.length (ja l)), (1, .x (.int .i64 i)), (5, .x (.slice s.2.1 (gat l l[i] s.1).length s.2.2)), (21, .sq l[i].needs.length (sa l[i].needs)), (22, .x (.int .i64 l[i].needs.length)), (23, .x (.int .i64 s.1))]) (fun s => [.row s.2.1 (gat l l[i] s.1).length s.2.2 3 1 (ia (gat l l[i] s.1))]) (fun s => s.1 ≤ l[i].needs.length) (fun s => l[i].needs.length - s.1) (0, none, 0) ?a (Nat.zero_le _) fun s hs => ?_
  case a => exact (Weak.mk' [] _ (List.Perm.refl _) (VwHs.refl _ _) (by (repeat' (first | exact VwL.nil | (refine VwL.cons ?_ ?_) | exact Vw.refl _ | exact Vw.top _ | fail))))
  obtain ⟨n, ad, cap⟩ := s
  simp only at hs
  simp only [frm, List.replicate_succ, List.replicate_zero, List.foldl_cons, List.foldl_nil, List.set_cons_zero, List.set_cons_succ]
  have hle := gat_le l l[i] n
  refine awp_row 0 rfl fun hcap h1 hcase => ?_
  clear h1
  rcases hcase with ⟨rfl, hn, rfl⟩ | ⟨b, rfl⟩
  · have e0 : gat l l[i] n = [] := List.eq_nil_of_length_eq_zero hn
    clear hcap hn hle
    simp only [e0, List.length_nil, show ia [] = [] from rfl]
    have e0' := Lib.hid e0
    clear e0
    (repeat' (first | with_reducible (first | refine awp_seq ?_ | refine awp_region ?_ | refine awp_block ?_ | refine awp_ret ?_ | refine awp_skip ?_ | refine awp_exit ?_ | refine awpL_nil ?_ | refine thenA_normal ?_ | refine thenA_exit ?_ | refine inBlockA_eq ?_ | refine inBlockA_normal ?_) | (refine awp_cond _ rfl (fun h => ?_) (fun h => ?_) <;> ((try (simp only [whn] at h)); skip)) | ((apply awpL_evl2 rfl); (case h => ((try (intro (hp : (_ : Bool) = true); ((try simp only [Bool.and_eq_true, Bool.not_eq_true', Bool.not_eq_true] at hp); (try simp only [hp, wte]); (try simp only [whn] at hp)))); (first | (apply Evl_k 0 rfl; (first | exact Evl_mv _ rfl | exact Evl_as _ rfl)) | (apply Evl_k 6 rfl; (exact Evl_load_at _ _ _ _ _ rfl rfl HAgg.out (by first | exact Nat.le_of_ble_eq_true rfl | fail) (by first | exact Nat.le_of_ble_eq_true rfl | fail))) | (apply Evl_k 7 rfl; (exact Evl_index_sq _ _ _ _ _ _ _ _ _ _ rfl rfl rfl HEl.out rfl (by first | omega | fail) (by simp; first | omega | fail))) | (apply Evl_x; (case hs => (intro _ _ h; cases h)); (case hx => rfl); (case hrun => (intro w; simp [wtb, AV.val, go_sem]; (try go_bits); rfl)))))); (case hT => ((try simp (disch := assumption) only [wtn, sa_drop, List.append_eq, List.foldl_cons, List.foldl_nil, List.map_cons, List.map_nil, Nat.reduceAdd, Nat.reduceMul, Nat.reduceSub, ↓reduceIte, Nat.reduceEqDiff]); rfl))) | (refine awpL_cons rfl ?_; ((first | (refine Stp_k 11 rfl ?_; (first | (refine Stp_call 34 Try.f34 ([]) _ _ _ rfl rfl Try.func34 (by decide) rfl (List.Perm.refl _) (VwL.refl _ _) (index_spec l _ hl) ?_; rintro _ _ ⟨rfl, rfl⟩) | (refine Stp_call 35 Try.f35 ([]) _ _ _ rfl rfl Try.func35 (by decide) rfl (List.Perm.refl _) (VwL.refl _ _) (sort_nil) ?_; rintro _ _ rfl) | (refine Stp_call 36 Try.f36 ([]) _ _ _ rfl rfl Try.func36 (by decide) rfl (List.Perm.refl _) (VwL.refl _ _) (compact_nil) ?_; rintro _ _ ⟨rfl, rfl⟩))) | (refine Stp_k 13 rfl ?_; ((refine Stp_append _ _ _ _ _ _ _ _ _ _ _ _ _ _ rfl rfl FRow.out (Src.row _ rfl FRow.out) HElem.out (by first | rfl | fail) (fits _ _ (by omega) (by decide)) (fun ad cap => ?_)))) | (refine Stp_k 17 rfl ?_; ((refine Stp_buildSlice _ _ _ _ _ _ _ _ rfl HElem.out (by first | rfl | fail) rfl (by decide) rfl (fun b => ?_))))); apply awpL_cong; (case hT => ((try simp (disch := omega) only [wtn, sa_drop, List.append_eq, List.foldl_cons, List.foldl_nil, List.map_cons, List.map_nil, Nat.reduceAdd, Nat.reduceMul, Nat.reduceSub, ↓reduceIte, Nat.reduceEqDiff]); rfl)); (case hH => ((try simp (disch := omega) only [wtn, sa_drop, List.append_eq, List.foldl_cons, List.foldl_nil, List.map_cons, List.map_nil, Nat.reduceAdd, Nat.reduceMul, Nat.reduceSub, ↓reduceIte, Nat.reduceEqDiff]); rfl)))) | fail))
    · have e : gat l l[i] (n + 1) = [idx l (l[i].needs[n])] := by rw [gat_pos l l[i] n (by assumption) h, e0'.out]; rfl
      refine ⟨(n + 1, ad, cap), by simp only; omega, by simp only; omega, ?_⟩
      simp only [e, List.length_cons, List.length_nil]
      exact (Weak.mk' [_] [_] (List.Perm.refl _) (VwHs.refl _ _) (by (repeat' (first | exact VwL.nil | (refine VwL.cons ?_ ?_) | exact Vw.refl _ | exact Vw.top _ | fail))))
    · have e : gat l l[i] (n + 1) = [] := by rw [gat_neg l l[i] n (by assumption) h, e0'.out]
      refine ⟨(n + 1, none, 0), by simp only; omega, by simp only; omega, ?_⟩
      simp only [e, List.length_nil]
      exact (Weak.mk' [] _ (List.Perm.refl _) (VwHs.refl _ _) (by (repeat' (first | exact VwL.nil | (refine VwL.cons ?_ ?_) | exact Vw.refl _ | exact Vw.top _ | fail))))
    · refine endA_ret _ _ (Res1 rfl (RV.tmp _) (Weak.mk' [_] [] (List.Perm.refl _) VwHs.nil (VwL.cons Vw.nil VwL.nil))) ?_
      obtain rfl : n = l[i].needs.length := by omega
      have := cmp_nds l i hi [] (by rw [e0'.out]) List.Pairwise.nil
      rw [← this]
      exact ⟨rfl, rfl⟩
  · (repeat' (first | with_reducible (first | refine awp_seq ?_ | refine awp_region ?_ | refine awp_block ?_ | refine awp_ret ?_ | refine awp_skip ?_ | refine awp_exit ?_ | refine awpL_nil ?_ | refine thenA_normal ?_ | refine thenA_exit ?_ | refine inBlockA_eq ?_ | refine inBlockA_normal ?_) | (refine awp_cond _ rfl (fun h => ?_) (fun h => ?_) <;> ((try (simp only [whn] at h)); skip)) | ((apply awpL_evl2 rfl); (case h => ((try (intro (hp : (_ : Bool) = true); ((try simp only [Bool.and_eq_true, Bool.not_eq_true', Bool.not_eq_true] at hp); (try simp only [hp, wte]); (try simp only [whn] at hp)))); (first | (apply Evl_k 0 rfl; (first | exact Evl_mv _ rfl | exact Evl_as _ rfl)) | (apply Evl_k 6 rfl; (exact Evl_load_at _ _ _ _ _ rfl rfl HAgg.out (by first | exact Nat.le_of_ble_eq_true rfl | fail) (by first | exact Nat.le_of_ble_eq_true rfl | fail))) | (apply Evl_k 7 rfl; (exact Evl_index_sq _ _ _ _ _ _ _ _ _ _ rfl rfl rfl HEl.out rfl (by first | omega | fail) (by simp; first | omega | fail))) | (apply Evl_x; (case hs => (intro _ _ h; cases h)); (case hx => rfl); (case hrun => (intro w; simp [wtb, AV.val, go_sem]; (try go_bits); rfl)))))); (case hT => ((try simp (disch := assumption) only [wtn, sa_drop, List.append_eq, List.foldl_cons, List.foldl_nil, List.map_cons, List.map_nil, Nat.reduceAdd, Nat.reduceMul, Nat.reduceSub, ↓reduceIte, Nat.reduceEqDiff]); rfl))) | (refine awpL_cons rfl ?_; ((first | (refine Stp_k 11 rfl ?_; (first | (refine Stp_call 34 Try.f34 ([]) _ _ _ rfl rfl Try.func34 (by decide) rfl (List.Perm.refl _) (VwL.refl _ _) (index_spec l _ hl) ?_; rintro _ _ ⟨rfl, rfl⟩) | (refine Stp_call 35 Try.f35 ([irow b (gat l l[i] n).length cap (gat l l[i] n)]) _ _ _ rfl rfl Try.func35 (by decide) rfl (List.Perm.refl _) (VwL.refl _ _) (sort_n b cap _ _ rfl (by omega)) ?_; rintro _ _ ⟨m, rfl, hpm, hsm⟩) | (refine Stp_call 36 Try.f36 ([irow b (gat l l[i] n).length cap m]) _ _ _ rfl rfl Try.func36 (by decide) rfl (List.Perm.refl _) (VwL.refl _ _) (compact_n b cap _ m hpm.length_eq (by omega)) ?_; rintro _ _ ⟨rfl, rfl⟩))) | (refine Stp_k 13 rfl ?_; ((refine Stp_append _ _ _ _ _ _ _ _ _ _ _ _ _ _ rfl rfl FRow.out (Src.row _ rfl FRow.out) HElem.out (by first | rfl | fail) ⟨by omega, by unfold maxLen; omega⟩ (fun ad cap => ?_)))) | (refine Stp_k 17 rfl ?_; ((refine Stp_buildSlice _ _ _ _ _ _ _ _ rfl HElem.out (by first | rfl | fail) rfl (by decide) rfl (fun b => ?_))))); apply awpL_cong; (case hT => ((try simp (disch := omega) only [wtn, sa_drop, List.append_eq, List.foldl_cons, List.foldl_nil, List.map_cons, List.map_nil, Nat.reduceAdd, Nat.reduceMul, Nat.reduceSub, ↓reduceIte, Nat.reduceEqDiff]); rfl)); (case hH => ((try simp (disch := omega) only [wtn, sa_drop, List.append_eq, List.foldl_cons, List.foldl_nil, List.map_cons, List.map_nil, Nat.reduceAdd, Nat.reduceMul, Nat.reduceSub, ↓reduceIte, Nat.reduceEqDiff]); rfl)))) | fail))
    · clear hcap hle
      have e := gat_pos l l[i] n (by assumption) h
      refine ⟨(n + 1, ad, cap), by simp only; omega, by simp only; omega, ?_⟩
      simp only [e, ia_app, List.length_append, List.length_cons, List.length_nil]
      exact (Weak.mk' [_] [_] (List.Perm.refl _) (VwHs.refl _ _) (by (repeat' (first | exact VwL.nil | (refine VwL.cons ?_ ?_) | exact Vw.refl _ | exact Vw.top _ | fail))))
    · have e := gat_neg l l[i] n (by assumption) h
      refine ⟨(n + 1, some ⟨b, 0, none⟩, cap), by simp only; omega, by simp only; omega, ?_⟩
      simp only [e]
      exact (Weak.mk' [] _ (List.Perm.refl _) (VwHs.refl _ _) (by (repeat' (first | exact VwL.nil | (refine VwL.cons ?_ ?_) | exact Vw.refl _ | exact Vw.top _ | fail))))
    · obtain rfl : n = l[i].needs.length := by omega
      have := cmp_nds l i hi m hpm hsm
      rw [← this]
      refine endA_ret _ _ (Res1 rfl (RV.tmp _) (Weak.mk' [_] [] (List.Perm.refl _) VwHs.nil (VwL.cons (Vw.row (List.Mem.head _) (VwL.refl _ _)) VwL.nil))) ?_
      exact ⟨rfl, rfl⟩
set_option maxRecDepth 100000 in
set_option maxHeartbeats 8000000 in
theorem needs_out (l : List JA) (i : Int) (hi : ¬(0 ≤ i ∧ i < (l.length : Int))) (hl : l.length ≤ 1000000) : Spec Try.prog 32 [] [.sq l.length (ja l), .x (.int .i64 i)] (fun r H' => r = .sq 0 [] ∧ H' = []) := by
  refine Spec_of Try.func32 rfl ?_
  simp only [Try.ntmps32, List.length_cons, List.length_nil, List.replicate_succ, List.replicate_zero, List.cons_append, List.nil_append, Nat.reduceAdd, Nat.reduceSub]
  (repeat' (first | with_reducible (first | refine awp_seq ?_ | refine awp_region ?_ | refine awp_ret ?_ | refine awpL_nil ?_ | refine thenA_normal ?_ | refine thenA_ret ?_) | (refine awp_cond _ rfl (fun h => ?_) (fun h => ?_) <;> ((try (simp only [whn] at h)); first | (exfalso; omega; done) | skip)) | ((first | apply awpL_evl2 rfl | apply awpL_g2 _ _ rfl rfl rfl); (case h => ((try (intro (hp : (_ : Bool) = true); ((try simp only [Bool.and_eq_true, Bool.not_eq_true', Bool.not_eq_true] at hp); (try simp only [hp, wte]); (try simp only [whn] at hp)))); (first | (apply Evl_k 0 rfl; (first | exact Evl_mv _ rfl | exact Evl_as _ rfl)) | (apply Evl_k 1 rfl; (exact Evl_or _ _ _ _ _ rfl rfl rfl rfl)) | (apply Evl_k 3 rfl; (exact Evl_len _ _ _ _ _ _ HEl.out rfl rfl)) | (apply Evl_x; (case hs => (intro _ _ h; cases h)); (case hx => rfl); (case hrun => (intro w; simp [wtb, AV.val, go_sem]; (try go_bits); rfl)))))); (case hT => ((try simp only [wtn, List.append_eq, List.foldl_cons, List.foldl_nil, List.map_cons, List.map_nil, Nat.reduceAdd, Nat.reduceMul, Nat.reduceSub, ↓reduceIte, Nat.reduceEqDiff]); rfl))) | fail))
  refine endA_ret _ _ (Res1 rfl (RV.tmp _) (Weak.mk' [] [] (List.Perm.refl _) VwHs.nil (VwL.cons Vw.nil VwL.nil))) ?_
  exact ⟨rfl, rfl⟩
theorem needs_spec (l : List JA) (i : Int) (hl : l.length ≤ 1000000) (hm : ∀ j ∈ l, j.needs.length ≤ 8796093022208) : Spec Try.prog 32 [] [.sq l.length (ja l), .x (.int .i64 i)] (fun r H' => r = .sq (nds l i).length (ia (nds l i)) ∧ H' = []) := by
  by_cases hi : 0 ≤ i ∧ i < (l.length : Int)
  · obtain ⟨k, rfl⟩ : ∃ k : Nat, i = k := ⟨i.toNat, by omega⟩
    have hk : k < l.length := by omega
    have e : nds l k = ndsTo l k l.length := by unfold nds; rw [if_pos hi]; simp
    rw [e]
    exact needs_in l k hk hl (hm _ (List.getElem_mem hk))
  · have e : nds l i = [] := by unfold nds; rw [if_neg hi]
    rw [e]
    exact needs_out l i hi hl
end Go.Proofs.Ytdcjhndcklofoaa
/- The order: the plain facts. -/
namespace Go.Proofs.Ytdcjhndcklofoaa
open Go.RowKit
set_option linter.unusedSimpArgs false
set_option linter.unusedVariables false
theorem pigeon : ∀ (n : Nat) (d : List Int), d.Nodup → (∀ x ∈ d, 0 ≤ x ∧ x < (n : Int)) → d.length ≤ n
  | 0, d, _, h => by
    cases d with
    | nil => simp
    | cons a d => have := h a (List.mem_cons_self ..); omega
  | n + 1, d, hd, h => by
    by_cases hm : (n : Int) ∈ d
    · have h1 := pigeon n (d.erase n) (hd.erase _) (fun x hx => by
        rw [hd.mem_erase_iff] at hx
        have := h x hx.2
        have := hx.1
        omega)
      rw [List.length_erase_of_mem hm] at h1
      omega
    · have := pigeon n d hd (fun x hx => by
        have := h x hx
        have : x ≠ n := fun e => hm (e ▸ hx)
        omega)
      omega
/-- May job i come next. -/
def rdy (l : List JA) (d : List Int) (i : Nat) : Bool := !d.contains (i : Int) && (nds l i).all (d.contains ·)
def fst (l : List JA) (d : List Int) : Option Nat := (List.range l.length).find? (rdy l d)
def ordF (l : List JA) : Nat → List Int → List Int
  | 0, d => d
  | n + 1, d => match fst l d with
    | none => d
    | some i => ordF l n (d ++ [(i : Int)])
/-- The order of the jobs. -/
def ord (l : List JA) : List Int := ordF l l.length []
/-- On the way: d lies done. -/
structure Done (l : List JA) (d : List Int) : Prop where
  nodup : d.Nodup
  lt : ∀ x ∈ d, 0 ≤ x ∧ x < (l.length : Int)
  ord : ordF l (l.length - d.length) d = ord l
theorem Done.nil (l : List JA) : Done l [] := ⟨List.nodup_nil, by simp, rfl⟩
theorem Done.le {l : List JA} {d : List Int} (h : Done l d) : d.length ≤ l.length := pigeon _ d h.nodup h.lt
theorem fst_some {l : List JA} {d : List Int} {i : Nat} (hi : i < l.length) (hr : rdy l d i = true) (hn : ∀ k, k < i → rdy l d k = false) : fst l d = some i := by
  unfold fst
  rw [List.find?_eq_some_iff_append]
  refine ⟨hr, List.range i, (List.range' (i + 1) (l.length - (i + 1))), ?_, fun k hk => by rw [hn k (List.mem_range.1 hk)]; rfl⟩
  rw [List.range_eq_range', List.range_eq_range']
  have : l.length = i + (1 + (l.length - (i + 1))) := by omega
  conv => lhs; rw [this]
  rw [← List.range'_append_1, ← List.range'_append_1]
  simp [Nat.zero_add]
theorem fst_none {l : List JA} {d : List Int} (hn : ∀ k, k < l.length → rdy l d k = false) : fst l d = none := by
  unfold fst
  rw [List.find?_eq_none]
  intro k hk
  rw [hn k (List.mem_range.1 hk)]; simp
theorem Done.snoc {l : List JA} {d : List Int} (h : Done l d) {i : Nat} (hi : i < l.length) (hr : rdy l d i = true) (hn : ∀ k, k < i → rdy l d k = false) : Done l (d ++ [(i : Int)]) := by
  have hnot : (i : Int) ∉ d := by
    unfold rdy at hr
    simp only [Bool.and_eq_true, Bool.not_eq_true'] at hr
    intro hm
    rw [List.contains_iff_mem.2 hm] at hr
    simp at hr
  have hnd : (d ++ [(i : Int)]).Nodup := by
    rw [List.nodup_append]
    refine ⟨h.nodup, by simp, fun a ha b hb => ?_⟩
    rw [List.mem_singleton] at hb
    subst hb
    intro e; subst e; exact hnot ha
  have hlt : ∀ x ∈ d ++ [(i : Int)], 0 ≤ x ∧ x < (l.length : Int) := by
    intro x hx
    rcases List.mem_append.1 hx with hx | hx
    · exact h.lt x hx
    · rw [List.mem_singleton] at hx; subst hx; omega
  have hle := pigeon _ _ hnd hlt
  simp only [List.length_append, List.length_cons, List.length_nil] at hle
  refine ⟨hnd, hlt, ?_⟩
  rw [← h.ord]
  obtain ⟨n, hn2⟩ : ∃ n, l.length - d.length = n + 1 := ⟨l.length - d.length - 1, by omega⟩
  rw [hn2, show l.length - (d ++ [(i : Int)]).length = n by simp; omega]
  simp only [ordF, fst_some hi hr hn]
theorem Done.end_ {l : List JA} {d : List Int} (h : Done l d) (hn : ∀ k, k < l.length → rdy l d k = false) : d = _root_.Go.Proofs.Ytdcjhndcklofoaa.ord l := by
  rw [← h.ord]
  cases l.length - d.length with
  | zero => rfl
  | succ n => simp only [ordF, fst_none hn]
end Go.Proofs.Ytdcjhndcklofoaa
