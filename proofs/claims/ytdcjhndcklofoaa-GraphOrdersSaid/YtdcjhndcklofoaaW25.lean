import Derived.Test.YtdcjhndcklofoaaW24
/- The graph: the reference's Cycle. -/
namespace Go.Proofs.Ytdcjhndcklofoaa
open Go.RowKit
set_option linter.unusedSimpArgs false
set_option linter.unusedVariables false
theorem row_frozen {l : List Int} (r : AV) (H' : List Hp) (h : RowIs l r H') : ∃ r2 H2, Weak H' [r] H2 [r2] ∧ (r2 = .sq l.length (ia l) ∧ H2 = []) := by
  obtain ⟨ad, cap, rfl, rfl⟩ := h
  exact ⟨_, _, Weak.mk' [_] [] (List.Perm.refl _) VwHs.nil (VwL.cons (Vw.row (List.Mem.head _) (VwL.refl _ _)) VwL.nil), rfl, rfl⟩
theorem orderA (l : List JA) (hl : l.length ≤ 1000000) (hm : ∀ j ∈ l, j.needs.length ≤ 8796093022208) : Spec Try.prog 9 [] [.sq l.length (ja l)] (fun r H' => r = .sq (ord l).length (ia (ord l)) ∧ H' = []) := (gorder_spec l hl hm).weak row_frozen
theorem cycleA (l : List JA) (hl : l.length ≤ 1000000) (hm : ∀ j ∈ l, j.needs.length ≤ 8796093022208) : Spec Try.prog 11 [] [.sq l.length (ja l)] (fun r H' => r = .sq (cyc l).length (ia (cyc l)) ∧ H' = []) := (cycle_spec l hl hm).weak row_frozen
theorem rorderA (l : List JA) (hl : l.length ≤ 1000000) (hm : ∀ j ∈ l, j.needs.length ≤ 8796093022208) : Spec Try.prog 10 [] [.sq l.length (ja l)] (fun r H' => r = .sq (ord l).length (ia (ord l)) ∧ H' = []) := (rorder_spec l hl hm).weak row_frozen
set_option maxRecDepth 100000 in
set_option maxHeartbeats 8000000 in
theorem rcycle_spec (l : List JA) (hl : l.length ≤ 1000000) (hm : ∀ j ∈ l, j.needs.length ≤ 8796093022208) : Spec Try.prog 12 [] [.sq l.length (ja l)] (fun r H' => r = .sq (cyc l).length (ia (cyc l)) ∧ H' = []) := by
  have hol := ord_le l
  have hlf := left_r (upto l.length) (ord l) (by simpa using hl) (by omega)
  rw [lft_upto, upto_len] at hlf
  refine Spec_of Try.func12 rfl ?_
  simp only [Try.ntmps12, List.length_cons, List.length_nil, List.replicate_succ, List.replicate_zero, List.cons_append, List.nil_append, Nat.reduceAdd, Nat.reduceSub]
  (repeat' (first | with_reducible (first | refine awp_seq ?_ | refine awp_region ?_ | refine awp_block ?_ | refine awpL_nil ?_ | refine thenA_normal ?_) | ((apply awpL_evl2 rfl); (case h => ((try (intro (hp : (_ : Bool) = true); ((try simp only [Bool.and_eq_true, Bool.not_eq_true', Bool.not_eq_true] at hp); (try simp only [hp, wte]); (try simp only [whn] at hp)))); (first | (apply Evl_k 0 rfl; (first | exact Evl_mv _ rfl | exact Evl_as _ rfl)) | (apply Evl_k 11 rfl; (exact Evl_call 10 Try.f10 _ _ rfl rfl Try.func10 (by decide) rfl (VwL.refl _ _) (rorderA l hl hm)))))); (case hT => ((try simp only [wtn, List.append_eq, List.foldl_cons, List.foldl_nil, List.map_cons, List.map_nil, Nat.reduceAdd, Nat.reduceMul, Nat.reduceSub, ↓reduceIte, Nat.reduceEqDiff]); rfl))) | fail))
  refine awp_nilrow 3 1 ?_
  refine awp_loopS (S := Nat × Option Addr × Nat) (fun s => frm 50 [(0, .sq l.length (ja l)), (3, .sq (ord l).length (ia (ord l))), (4, .x (.slice none 0 0)), (5, .x (.slice s.2.1 s.1 s.2.2)), (6, .x (.int .i64 s.1))]) (fun s => [.row s.2.1 s.1 s.2.2 3 1 (ia (upto s.1))]) (fun s => s.1 ≤ l.length) (fun s => l.length - s.1) (0, none, 0) ?a (Nat.zero_le _) fun s hs => ?_
  case a => exact (Weak.mk' [] _ (List.Perm.refl _) (VwHs.refl _ _) (by (repeat' (first | exact VwL.nil | (refine VwL.cons ?_ ?_) | exact Vw.refl _ | exact Vw.top _ | fail))))
  obtain ⟨k, ad, cap⟩ := s
  simp only at hs
  simp only [frm, List.replicate_succ, List.replicate_zero, List.foldl_cons, List.foldl_nil, List.set_cons_zero, List.set_cons_succ]
  by_cases hk : k < l.length
  · (repeat' (first | with_reducible (first | refine awp_seq ?_ | refine awp_region ?_ | refine awp_block ?_ | refine awp_skip ?_ | refine awpL_nil ?_ | refine thenA_normal ?_ | refine inBlockA_normal ?_) | (refine awp_cond _ rfl (fun h => ?_) (fun h => ?_) <;> ((try (simp only [whn] at h)); first | (exfalso; omega; done) | skip)) | ((apply awpL_evl2 rfl); (case h => ((try (intro (hp : (_ : Bool) = true); ((try simp only [Bool.and_eq_true, Bool.not_eq_true', Bool.not_eq_true] at hp); (try simp only [hp, wte]); (try simp only [whn] at hp)))); (first | (apply Evl_k 0 rfl; (first | exact Evl_mv _ rfl | exact Evl_as _ rfl)) | (apply Evl_k 3 rfl; (exact Evl_len _ _ _ _ _ _ HEl.out rfl rfl)) | (apply Evl_x; (case hs => (intro _ _ h; cases h)); (case hx => rfl); (case hrun => (intro w; simp [wtb, AV.val, go_sem]; (try go_bits); rfl)))))); (case hT => ((try simp only [wtn, List.append_eq, List.foldl_cons, List.foldl_nil, List.map_cons, List.map_nil, Nat.reduceAdd, Nat.reduceMul, Nat.reduceSub, ↓reduceIte, Nat.reduceEqDiff]); rfl))) | (refine awpL_cons rfl ?_; ((first | (refine Stp_k 13 rfl ?_; ((refine Stp_append _ _ _ _ _ _ _ _ _ _ _ _ _ _ rfl rfl FRow.out (Src.row _ rfl FRow.out) HElem.out (by first | rfl | fail) (fits _ _ (by omega) (by decide)) (fun ad cap => ?_)))) | (refine Stp_k 17 rfl ?_; ((refine Stp_buildSlice _ _ _ _ _ _ _ _ rfl HElem.out (by first | rfl | fail) rfl (by decide) rfl (fun b => ?_))))); apply awpL_cong; (case hT => ((try simp only [wtn, List.append_eq, List.foldl_cons, List.foldl_nil, List.map_cons, List.map_nil, Nat.reduceAdd, Nat.reduceMul, Nat.reduceSub, ↓reduceIte, Nat.reduceEqDiff]); rfl)); (case hH => ((try simp only [wtn, List.append_eq, List.foldl_cons, List.foldl_nil, List.map_cons, List.map_nil, Nat.reduceAdd, Nat.reduceMul, Nat.reduceSub, ↓reduceIte, Nat.reduceEqDiff]); rfl)))) | fail))
    refine ⟨(k + 1, ad, cap), by simp only; omega, by simp only; omega, ?_⟩
    simp only [upto_succ, ia_app]
    exact (Weak.mk' [_] [_] (List.Perm.refl _) (VwHs.refl _ _) (by (repeat' (first | exact VwL.nil | (refine VwL.cons ?_ ?_) | exact Vw.refl _ | exact Vw.top _ | fail))))
  · obtain rfl : k = l.length := by omega
    cases h0 : at0 l with
    | none =>
      rw [h0] at hlf
      simp only at hlf
      have hc : cyc l = [] := by unfold cyc; rw [h0]
      (repeat' (first | with_reducible (first | refine awp_seq ?_ | refine awp_region ?_ | refine awp_block ?_ | refine awp_exit ?_ | refine awpL_nil ?_ | refine thenA_normal ?_ | refine thenA_exit ?_ | refine inBlockA_eq ?_) | (refine awp_cond _ rfl (fun h => ?_) (fun h => ?_) <;> first | (exact absurd h (by decide)) | ((try (simp only [whn] at h)); skip)) | ((apply awpL_evl2 rfl); (case h => ((try (intro (hp : (_ : Bool) = true); ((try simp only [Bool.and_eq_true, Bool.not_eq_true', Bool.not_eq_true] at hp); (try simp only [hp, wte]); (try simp only [whn] at hp)))); (first | (apply Evl_k 0 rfl; (first | exact Evl_mv _ rfl | exact Evl_as _ rfl)) | (apply Evl_k 3 rfl; (exact Evl_len _ _ _ _ _ _ HEl.out rfl rfl)) | (apply Evl_k 11 rfl; (exact Evl_callL 26 Try.f26 _ _ rfl rfl Try.func26 (by decide) rfl (by (repeat' (first | exact VwL.nil | (refine VwL.cons ?_ ?_) | exact Vw.refl _ | exact Vw.row (List.Mem.head _) (VwL.refl _ _) | fail)); done) (hlf))) | (apply Evl_x; (case hs => (intro _ _ h; cases h)); (case hx => rfl); (case hrun => (intro w; simp [wtb, AV.val, go_sem]; (try go_bits); rfl)))))); (case hT => ((try simp only [wtn, List.append_eq, List.foldl_cons, List.foldl_nil, List.map_cons, List.map_nil, Nat.reduceAdd, Nat.reduceMul, Nat.reduceSub, ↓reduceIte, Nat.reduceEqDiff]); rfl))) | fail))
      refine awp_loopS (S := Unit) (fun s => frm 50 [(7, .x (.int .i64 (-1)))]) (fun s => []) (fun s => True) (fun s => 0) () (Weak.mk' [_] [] (List.Perm.refl _) VwHs.nil (by (repeat' (first | exact VwL.nil | (refine VwL.cons ?_ ?_) | exact Vw.refl _ | exact Vw.top _ | fail)))) trivial fun s hs => ?_
      simp only [frm, List.replicate_succ, List.replicate_zero, List.foldl_cons, List.foldl_nil, List.set_cons_zero, List.set_cons_succ]
      (repeat' (first | with_reducible (first | refine awp_seq ?_ | refine awp_region ?_ | refine awp_ret ?_ | refine awp_exit ?_ | refine awpL_nil ?_ | refine thenA_normal ?_ | refine thenA_exit ?_ | refine inBlockA_eq ?_) | (refine awp_cond _ rfl (fun h => ?_) (fun h => ?_) <;> first | (exact absurd h (by decide)) | ((try (simp only [whn] at h)); skip)) | ((apply awpL_evl2 rfl); (case h => ((try (intro (hp : (_ : Bool) = true); ((try simp only [Bool.and_eq_true, Bool.not_eq_true', Bool.not_eq_true] at hp); (try simp only [hp, wte]); (try simp only [whn] at hp)))); (first | (apply Evl_k 0 rfl; (first | exact Evl_mv _ rfl | exact Evl_as _ rfl)) | (apply Evl_x; (case hs => (intro _ _ h; cases h)); (case hx => rfl); (case hrun => (intro w; simp [wtb, AV.val, go_sem]; (try go_bits); rfl)))))); (case hT => ((try simp only [wtn, List.append_eq, List.foldl_cons, List.foldl_nil, List.map_cons, List.map_nil, Nat.reduceAdd, Nat.reduceMul, Nat.reduceSub, ↓reduceIte, Nat.reduceEqDiff]); rfl))) | fail))
      rw [hc]
      exact endA_ret _ _ (Res1 rfl (RV.tmp _) (Weak.mk' [] [] (List.Perm.refl _) VwHs.nil (VwL.cons Vw.nil VwL.nil))) ⟨rfl, rfl⟩
    | some a0 =>
      rw [h0] at hlf
      simp only at hlf
      have hw0 := Way.first h0
      have ha0 := (at0_some h0).1
      (repeat' (first | with_reducible (first | refine awp_seq ?_ | refine awp_region ?_ | refine awp_block ?_ | refine awp_exit ?_ | refine awpL_nil ?_ | refine thenA_normal ?_ | refine thenA_exit ?_ | refine inBlockA_eq ?_) | (refine awp_cond _ rfl (fun h => ?_) (fun h => ?_) <;> first | (exact absurd h (by decide)) | ((try (simp only [whn] at h)); skip)) | ((apply awpL_evl2 rfl); (case h => ((try (intro (hp : (_ : Bool) = true); ((try simp only [Bool.and_eq_true, Bool.not_eq_true', Bool.not_eq_true] at hp); (try simp only [hp, wte]); (try simp only [whn] at hp)))); (first | (apply Evl_k 0 rfl; (first | exact Evl_mv _ rfl | exact Evl_as _ rfl)) | (apply Evl_k 3 rfl; (exact Evl_len _ _ _ _ _ _ HEl.out rfl rfl)) | (apply Evl_k 11 rfl; (exact Evl_callL 26 Try.f26 _ _ rfl rfl Try.func26 (by decide) rfl (by (repeat' (first | exact VwL.nil | (refine VwL.cons ?_ ?_) | exact Vw.refl _ | exact Vw.row (List.Mem.head _) (VwL.refl _ _) | fail)); done) (hlf))) | (apply Evl_x; (case hs => (intro _ _ h; cases h)); (case hx => rfl); (case hrun => (intro w; simp [wtb, AV.val, go_sem]; (try go_bits); rfl)))))); (case hT => ((try simp only [wtn, List.append_eq, List.foldl_cons, List.foldl_nil, List.map_cons, List.map_nil, Nat.reduceAdd, Nat.reduceMul, Nat.reduceSub, ↓reduceIte, Nat.reduceEqDiff]); rfl))) | fail))
      refine awp_nilrow 3 1 ?_
      refine awp_loopS (S := List Int × Int × Option Addr × Nat) (fun s => frm 50 [(0, .sq l.length (ja l)), (3, .sq (ord l).length (ia (ord l))), (4, .x (.slice s.2.2.1 s.1.length s.2.2.2)), (7, .x (.int .i64 s.2.1))]) (fun s => [.row s.2.2.1 s.1.length s.2.2.2 3 1 (ia s.1)]) (fun s => Way l s.1 s.2.1) (fun s => l.length + 1 - s.1.length) ([], (a0 : Int), none, 0) (Weak.mk' [.row ad _ _ _ _ _] [_] (by (repeat' (first | exact List.Perm.refl _ | refine (List.perm_middle (l₁ := [_])).trans (List.Perm.cons _ ?_) | fail))) (VwHs.refl _ _) (by (repeat' (first | exact VwL.nil | (refine VwL.cons ?_ ?_) | exact Vw.refl _ | exact Vw.top _ | fail)))) hw0 fun s hs => ?_
      clear hlf hw0 ha0
      obtain ⟨d, a, ad, cap⟩ := s
      simp only at hs
      have hle := hs.le
      have halt := hs.alt
      obtain ⟨nb, hnb, hnm, hnf⟩ := hs.nxt
      have hln := lft_nxt hnb
      have hnl := nds_le l a
      have hlf2 := left_r (nds l a) (ord l) (by omega) (by omega)
      rw [hln] at hlf2
      have hs' := Lib.hid hs
      have hnb' := Lib.hid hnb
      clear hs hnb hnf hln
      simp only [frm, List.replicate_succ, List.replicate_zero, List.foldl_cons, List.foldl_nil, List.set_cons_zero, List.set_cons_succ]
      (repeat' (first | with_reducible (first | refine awp_seq ?_ | refine awp_region ?_ | refine awp_block ?_ | refine awp_skip ?_ | refine awpL_nil ?_ | refine thenA_normal ?_) | (refine awp_cond _ rfl (fun h => ?_) (fun h => ?_) <;> ((try (simp only [whn] at h)); first | (exfalso; omega; done) | skip)) | ((apply awpL_evl2 rfl); (case h => ((try (intro (hp : (_ : Bool) = true); ((try simp only [Bool.and_eq_true, Bool.not_eq_true', Bool.not_eq_true] at hp); (try simp only [hp, wte]); (try simp only [whn] at hp)))); (first | (apply Evl_k 0 rfl; (first | exact Evl_mv _ rfl | exact Evl_as _ rfl)) | (apply Evl_x; (case hs => (intro _ _ h; cases h)); (case hx => rfl); (case hrun => (intro w; simp [wtb, AV.val, go_sem]; (try go_bits); rfl)))))); (case hT => ((try simp only [wtn, List.append_eq, List.foldl_cons, List.foldl_nil, List.map_cons, List.map_nil, Nat.reduceAdd, Nat.reduceMul, Nat.reduceSub, ↓reduceIte, Nat.reduceEqDiff]); rfl))) | fail))
      refine awp_loopS (S := Nat) (fun i => frm 50 [(0, .sq l.length (ja l)), (3, .sq (ord l).length (ia (ord l))), (4, .x (.slice ad d.length cap)), (7, .x (.int .i64 a)), (8, .x (.int .i64 i))]) (fun _ => [.row ad d.length cap 3 1 (ia d)]) (fun i => i ≤ d.length ∧ a ∉ d.take i) (fun i => d.length - i) 0 (Weak.mk' [] _ (List.Perm.refl _) (VwHs.refl _ _) (by (repeat' (first | exact VwL.nil | (refine VwL.cons ?_ ?_) | exact Vw.refl _ | exact Vw.top _ | fail)))) ⟨Nat.zero_le _, by simp⟩ fun i hi => ?_
      obtain ⟨hi1, hi2⟩ := hi
      have hi2' := Lib.hid hi2
      clear hi2
      simp only [frm, List.replicate_succ, List.replicate_zero, List.foldl_cons, List.foldl_nil, List.set_cons_zero, List.set_cons_succ]
      by_cases hid : i < d.length
      · refine awp_row 0 rfl fun hcap h1 hcase => ?_
        clear h1
        rcases hcase with ⟨rfl, hn, rfl⟩ | ⟨bp, rfl⟩
        · omega
        · (repeat' (first | with_reducible (first | refine awp_seq ?_ | refine awp_region ?_ | refine awp_block ?_ | refine awp_skip ?_ | refine awpL_nil ?_ | refine thenA_normal ?_ | refine inBlockA_normal ?_) | (refine awp_cond _ rfl (fun h => ?_) (fun h => ?_) <;> ((try (simp only [whn] at h)); first | (exfalso; omega; done) | skip)) | ((apply awpL_evl2 rfl); (case h => ((try (intro (hp : (_ : Bool) = true); ((try simp only [Bool.and_eq_true, Bool.not_eq_true', Bool.not_eq_true] at hp); (try simp only [hp, wte]); (try simp only [whn] at hp)))); (first | (apply Evl_k 0 rfl; (first | exact Evl_mv _ rfl | exact Evl_as _ rfl)) | (apply Evl_k 6 rfl; (exact Evl_load_row _ _ _ _ _ _ _ _ _ _ _ _ rfl rfl FRow.out HAgg.out (by first | (simp [wlq]; omega) | fail) (by first | (simp [wlq]; omega) | fail))) | (apply Evl_k 7 rfl; (exact Evl_index_own _ _ _ _ _ _ _ _ _ _ _ _ rfl rfl rfl HEl.out rfl (by first | omega | fail))) | (apply Evl_x; (case hs => (intro _ _ h; cases h)); (case hx => rfl); (case hrun => (intro w; simp [wtb, AV.val, go_sem]; (try go_bits); rfl)))))); (case hT => ((try simp (disch := assumption) only [wtn, ia_drop, List.append_eq, List.foldl_cons, List.foldl_nil, List.map_cons, List.map_nil, Nat.reduceAdd, Nat.reduceMul, Nat.reduceSub, ↓reduceIte, Nat.reduceEqDiff]); rfl))) | fail))
          · have hfi : d.findIdx? (· == a) = some i := by
              rw [List.findIdx?_eq_some_iff_getElem]
              refine ⟨hid, by rw [beq_iff_eq]; exact h, fun j hj => ?_⟩
              rw [Bool.not_eq_true, beq_eq_false_iff_ne]
              intro e
              exact hi2'.out (List.mem_take_iff_getElem.2 ⟨j, by omega, e⟩)
            have hpe := hs'.out.end_ hfi
            have hpl : (cyc l).length = d.length - i := by rw [← hpe, List.length_drop]
            clear hfi
            have hpe' := Lib.hid hpe
            have hpl' := Lib.hid hpl
            clear hpe hpl
            apply awpL_weak; (case h => (apply Weak.mk' [_] [] (List.Perm.of_eq (List.append_nil _).symm) (VwHs.refl _ _); (repeat' (first | exact VwL.nil | apply VwL.cons | exact Vw.row (List.Mem.head _) (VwL.refl _ _) | exact Vw.refl _ | fail))))
            (repeat' (first | with_reducible (first | refine awp_ret ?_ | refine awpL_nil ?_ | refine thenA_normal ?_ | refine thenA_ret ?_ | refine inBlockA_ret ?_) | ((apply awpL_evl2 rfl); (case h => ((try (intro (hp : (_ : Bool) = true); ((try simp only [Bool.and_eq_true, Bool.not_eq_true', Bool.not_eq_true] at hp); (try simp only [hp, wte]); (try simp only [whn] at hp)))); (first | (apply Evl_k 0 rfl; (exact Evl_as _ rfl)) | (apply Evl_k 9 rfl; (exact Evl_slice_sq _ _ _ _ _ _ _ _ _ _ rfl rfl HEl.out (by first | exact .inr ⟨_, _, rfl, rfl⟩ | fail) (by first | exact .inl ⟨rfl, rfl⟩ | fail) (by omega) (by omega)))))); (case hT => ((try simp (disch := omega) only [wtn, ia_dropl, ia_takel, take_drop_len, List.append_eq, List.foldl_cons, List.foldl_nil, List.map_cons, List.map_nil, Nat.reduceAdd, Nat.reduceMul, Nat.reduceSub, ↓reduceIte, Nat.reduceEqDiff]); rfl))) | fail))
            refine endA_ret _ _ (Res1 rfl (RV.tmp _) (Weak.mk' [] _ (List.Perm.refl _) (VwHs.refl _ _) (VwL.refl _ _))) ?_
            rw [← hpe'.out, List.length_drop]
            exact ⟨rfl, rfl⟩
          · refine ⟨i + 1, by omega, ⟨by omega, ?_⟩, (Weak.mk' [] _ (List.Perm.refl _) (VwHs.refl _ _) (by (repeat' (first | exact VwL.nil | (refine VwL.cons ?_ ?_) | exact Vw.refl _ | exact Vw.top _ | fail))))⟩
            rw [take_snoc' d i hid]
            intro hm2
            rcases List.mem_append.1 hm2 with hm2 | hm2
            · exact hi2'.out hm2
            · rw [List.mem_singleton] at hm2; exact h hm2.symm
      · (repeat' (first | with_reducible (first | refine awp_seq ?_ | refine awp_region ?_ | refine awp_exit ?_ | refine awpL_nil ?_ | refine thenA_normal ?_ | refine thenA_exit ?_ | refine inBlockA_eq ?_ | refine inBlockA_normal ?_) | (refine awp_cond _ rfl (fun h => ?_) (fun h => ?_) <;> ((try (simp only [whn] at h)); first | (exfalso; omega; done) | skip)) | ((apply awpL_evl2 rfl); (case h => ((try (intro (hp : (_ : Bool) = true); ((try simp only [Bool.and_eq_true, Bool.not_eq_true', Bool.not_eq_true] at hp); (try simp only [hp, wte]); (try simp only [whn] at hp)))); (first | (apply Evl_k 0 rfl; (first | exact Evl_mv _ rfl | exact Evl_as _ rfl)) | (apply Evl_k 11 rfl; (first | exact Evl_call 27 Try.f27 _ _ rfl rfl Try.func27 (by decide) rfl (VwL.refl _ _) (rneeds_spec l a hl hm) | exact Evl_call 26 Try.f26 _ _ rfl rfl Try.func26 (by decide) rfl (VwL.refl _ _) (hlf2))) | (apply Evl_x; (case hs => (intro _ _ h; cases h)); (case hx => rfl); (case hrun => (intro w; simp [wtb, AV.val, go_sem]; (try go_bits); rfl)))))); (case hT => ((try simp only [wtn, List.append_eq, List.foldl_cons, List.foldl_nil, List.map_cons, List.map_nil, Nat.reduceAdd, Nat.reduceMul, Nat.reduceSub, ↓reduceIte, Nat.reduceEqDiff]); rfl))) | (refine awpL_cons rfl ?_; ((first | (refine Stp_k 13 rfl ?_; ((refine Stp_append _ _ _ _ _ _ _ _ _ _ _ _ _ _ rfl rfl FRow.out (Src.row _ rfl FRow.out) HElem.out (by first | rfl | fail) (fits _ _ (by omega) (by decide)) (fun ad cap => ?_)))) | (refine Stp_k 17 rfl ?_; ((refine Stp_buildSlice _ _ _ _ _ _ _ _ rfl HElem.out (by first | rfl | fail) rfl (by decide) rfl (fun b => ?_))))); apply awpL_cong; (case hT => ((try simp only [wtn, List.append_eq, List.foldl_cons, List.foldl_nil, List.map_cons, List.map_nil, Nat.reduceAdd, Nat.reduceMul, Nat.reduceSub, ↓reduceIte, Nat.reduceEqDiff]); rfl)); (case hH => ((try simp only [wtn, List.append_eq, List.foldl_cons, List.foldl_nil, List.map_cons, List.map_nil, Nat.reduceAdd, Nat.reduceMul, Nat.reduceSub, ↓reduceIte, Nat.reduceEqDiff]); rfl)))) | fail))
        have hna : a ∉ d := by
          have := hi2'.out
          rwa [List.take_of_length_le (by omega)] at this
        refine ⟨(d ++ [a], nb, ad, cap), by simp only [List.length_append, List.length_cons, List.length_nil]; omega, hs'.out.step hna hnb'.out, ?_⟩
        simp only [ia_app, List.length_append, List.length_cons, List.length_nil]
        exact (Weak.mk' [_] [_] (List.Perm.refl _) (VwHs.refl _ _) (by (repeat' (first | exact VwL.nil | (refine VwL.cons ?_ ?_) | exact Vw.refl _ | exact Vw.top _ | fail))))
end Go.Proofs.Ytdcjhndcklofoaa
