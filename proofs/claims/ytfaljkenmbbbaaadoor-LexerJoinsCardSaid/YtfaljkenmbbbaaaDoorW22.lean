import Derived.Test.YtfaljkenmbbbaaaDoorW21
import Derived.Test.YtfaljkenmbbbaaaDoorW15
/- LexerPlaces: the walk. -/
namespace Go.Proofs.YtfaljkenmbbbaaaDoor
open Go.RowKit
set_option linter.unusedSimpArgs false
set_option linter.unusedVariables false
attribute [local simp] ta_len
set_option maxRecDepth 100000 in
set_option maxHeartbeats 8000000 in
theorem places_s (l : List Int) (hd : DK l) : Spec Tryd.prog 6 [] [.sq l.length (ia l)] (fun r H' => r = .x (.bool true) ∧ H' = []) := by
  refine Spec_of Tryd.func6 rfl ?_
  simp only [Tryd.ntmps6, List.length_cons, List.length_nil, List.replicate_succ, List.replicate_zero, List.cons_append, List.nil_append, Nat.reduceAdd, Nat.reduceSub]
  (repeat' (first | with_reducible (first | refine awp_seq ?_ | refine awp_region ?_ | refine awp_skip ?_ | refine awpL_nil ?_ | refine thenA_normal ?_) | (refine awp_cond _ rfl (fun h => ?_) (fun h => ?_) <;> first | (exact absurd h (by decide)) | ((try (simp only [whn] at h)); skip)) | ((apply awpL_evl2 rfl); (case h => ((try (intro (hp : (_ : Bool) = true); ((try simp only [Bool.and_eq_true, Bool.not_eq_true', Bool.not_eq_true] at hp); (try simp only [hp, wte]); (try simp only [whn] at hp)))); (first | (apply Evl_k 0 rfl; (first | exact Evl_mv _ rfl | exact Evl_as _ rfl)) | (apply Evl_k 11 rfl; (exact Evl_call 9 Tryd.f9 _ _ rfl rfl Tryd.func9 (by decide) rfl (VwL.refl _ _) (sane_s))) | (apply Evl_x; (case hs => (intro _ _ h; cases h)); (case hx => rfl); (case hrun => (intro w; simp [wtb, AV.val, go_sem]; (try go_bits); rfl)))))); (case hT => ((try simp only [wtn, List.append_eq, List.foldl_cons, List.foldl_nil, List.map_cons, List.map_nil, Nat.reduceAdd, Nat.reduceMul, Nat.reduceSub, ↓reduceIte, Nat.reduceEqDiff]); rfl))) | (refine awpL_cons rfl ?_; (((refine Stp_k 11 rfl ?_; (first | (refine Stp_call 10 Tryd.f10 ([]) _ _ _ rfl rfl Tryd.func10 (by decide) rfl (List.Perm.refl _) (VwL.refl _ _) (new_w l []) ?_; rintro _ _ ⟨bd, rfl, rfl⟩) | (refine Stp_call 12 Tryd.f12 [_] _ _ _ rfl rfl Tryd.func12 (by decide) rfl (List.Perm.refl _) (VwL.refl _ _) (procfile_w _ l 0 hd (Nat.zero_le _)) ?_; rintro _ _ ⟨s0, k1, rfl, rfl, hk1, hs0, hx0⟩) | (refine Stp_call 11 Tryd.f11 [_] _ _ _ rfl rfl Tryd.func11 (by decide) rfl (List.Perm.refl _) (VwL.refl _ _) (spoil_w _ l _ _ hd (by assumption) (by omega)) ?_; rintro _ _ ⟨s, k2, rfl, rfl, hk2, hs⟩)))); apply awpL_cong; (case hT => ((try simp only [wtn, List.append_eq, List.foldl_cons, List.foldl_nil, List.map_cons, List.map_nil, Nat.reduceAdd, Nat.reduceMul, Nat.reduceSub, ↓reduceIte, Nat.reduceEqDiff]); rfl)); (case hH => ((try simp only [wtn, List.append_eq, List.foldl_cons, List.foldl_nil, List.map_cons, List.map_nil, Nat.reduceAdd, Nat.reduceMul, Nat.reduceSub, ↓reduceIte, Nat.reduceEqDiff]); rfl)))) | fail))
  have h1 := lall_s s (by omega)
  have h2 := lall_s (preL ++ s ++ sufL) (by simp [preL, sufL]; omega)
  have hp := places_plain s (by omega)
  have hc0 := (lex_facts s).1
  have hln := (lex_line s).1
  have hcnt := (lex_facts s).2
  unfold Flt.av at h1 h2
  cases hx : lex s with
  | error f =>
    cases hy : lex (preL ++ s ++ sufL) with
    | ok us => rw [hx, hy] at hp; exact hp.elim
    | error g =>
      rw [hx, hy] at hp
      rw [hx] at h1; rw [hy] at h2
      simp only [toksOf, fltOf] at h1 h2
      obtain ⟨e1, e2⟩ := hp
      rw [e1, e2] at h2
      have hf0 := hc0 f hx
      have hfl := hln f hx
      clear hx hy hc0 hln hcnt e1 e2
      obtain ⟨cc, hcc⟩ : ∃ c, f.code = c := ⟨_, rfl⟩
      rw [hcc] at h1 h2 hf0
      (repeat' (first | with_reducible (first | refine awp_seq ?_ | refine awp_region ?_ | refine awp_block ?_ | refine awp_skip ?_ | refine awpL_nil ?_ | refine thenA_normal ?_) | (refine awp_cond _ rfl (fun h => ?_) (fun h => ?_) <;> first | (exact absurd h (by decide)) | ((try (simp only [whn] at h)); skip)) | ((first | apply awpL_evl2 rfl | apply awpL_g2 _ _ rfl rfl rfl); (case h => ((try (intro (hp : (_ : Bool) = true); ((try simp only [Bool.and_eq_true, Bool.not_eq_true', Bool.not_eq_true] at hp); (try simp only [hp, wte]); (try simp only [whn] at hp)))); (first | (apply Evl_k 0 rfl; (first | exact Evl_mv _ rfl | exact Evl_as _ rfl)) | (apply Evl_k 1 rfl; (first | exact Evl_pickf _ _ _ rfl rfl | exact Evl_and' _ _ _ _ _ rfl rfl rfl rfl)) | (apply Evl_k 2 rfl; (exact Evl_extract _ _ _ _ rfl rfl rfl)) | (apply Evl_k 3 rfl; (exact Evl_len _ _ _ _ _ _ HEl.out rfl rfl)) | (apply Evl_k 5 rfl; (exact Evl_field_x _ _ _ _ _ _ rfl rfl HFld.out)) | (apply Evl_k 6 rfl; (exact Evl_load _ _ _ _ _ _ _ _ rfl rfl FBox.out HAgg.out (by first | exact Nat.le_of_ble_eq_true rfl | fail) (by first | exact Nat.le_of_ble_eq_true rfl | fail))) | (apply Evl_k 11 rfl; (first | exact Evl_call 13 Tryd.f13 _ _ rfl rfl Tryd.func13 (by decide) rfl (VwL.refl _ _) (h1) | exact Evl_call 13 Tryd.f13 _ _ rfl rfl Tryd.func13 (by decide) rfl (VwL.refl _ _) (h2))) | (apply Evl_k 12 rfl; (first | exact Evl_concat _ _ preL _ rfl rfl rfl (by simp [preL]; omega) | exact Evl_concat _ _ _ sufL rfl rfl rfl (by simp [preL, sufL]; omega))) | (apply Evl_x; (case hs => (intro _ _ h; cases h)); (case hx => rfl); (case hrun => (intro w; simp [wtb, AV.val, go_sem]; (try go_bits); rfl)))))); (case hT => ((try simp only [wtn, List.append_eq, List.foldl_cons, List.foldl_nil, List.map_cons, List.map_nil, Nat.reduceAdd, Nat.reduceMul, Nat.reduceSub, ↓reduceIte, Nat.reduceEqDiff]); rfl))) | (refine awpL_cons rfl ?_; ((first | (refine Stp_k 14 rfl ?_; ((refine Stp_alloc _ _ rfl HZero.out rfl (fun b => ?_)))) | (refine Stp_k 16 rfl ?_; ((refine Stp_store _ _ _ _ _ _ _ rfl rfl FBox.out HSize.out (by first | rfl | fail) (by first | exact Nat.le_of_ble_eq_true rfl | fail) ?_)))); apply awpL_cong; (case hT => ((try simp only [wtn, List.append_eq, List.foldl_cons, List.foldl_nil, List.map_cons, List.map_nil, Nat.reduceAdd, Nat.reduceMul, Nat.reduceSub, ↓reduceIte, Nat.reduceEqDiff]); rfl)); (case hH => ((try simp only [wtn, List.append_eq, List.foldl_cons, List.foldl_nil, List.map_cons, List.map_nil, Nat.reduceAdd, Nat.reduceMul, Nat.reduceSub, ↓reduceIte, Nat.reduceEqDiff]); rfl)))) | fail))
      refine awp_loopS (S := Unit) (fun _ => frm 134 [(61, .x (.int .i64 0)), (62, .x (.int .i64 0))]) (fun _ => []) (fun _ => True) (fun _ => 0) () ?e trivial fun _ _ => ?_
      case e => exact (Weak.mk' [_, _, _] [] (List.Perm.refl _) (VwHs.refl _ _) (by (repeat' (first | exact VwL.nil | (refine VwL.cons ?_ ?_) | exact Vw.refl _ | exact Vw.top _ | fail))))
      simp only [frm, List.replicate_succ, List.replicate_zero, List.foldl_cons, List.foldl_nil, List.set_cons_zero, List.set_cons_succ]
      (repeat' (first | with_reducible (first | refine awp_seq ?_ | refine awp_region ?_ | refine awp_ret ?_ | refine awp_exit ?_ | refine awpL_nil ?_ | refine thenA_normal ?_ | refine thenA_exit ?_ | refine inBlockA_eq ?_) | (refine awp_cond _ rfl (fun h => ?_) (fun h => ?_) <;> first | (exact absurd h (by decide)) | ((try (simp only [whn] at h)); skip)) | ((apply awpL_evl2 rfl); (case h => ((try (intro (hp : (_ : Bool) = true); ((try simp only [Bool.and_eq_true, Bool.not_eq_true', Bool.not_eq_true] at hp); (try simp only [hp, wte]); (try simp only [whn] at hp)))); (first | (apply Evl_k 0 rfl; (exact Evl_as _ rfl)) | (apply Evl_x; (case hs => (intro _ _ h; cases h)); (case hx => rfl); (case hrun => (intro w; simp [wtb, AV.val, go_sem]; (try go_bits); rfl)))))); (case hT => ((try simp only [wtn, List.append_eq, List.foldl_cons, List.foldl_nil, List.map_cons, List.map_nil, Nat.reduceAdd, Nat.reduceMul, Nat.reduceSub, ↓reduceIte, Nat.reduceEqDiff]); rfl))) | fail))
      refine endA_ret _ _ (Res1 rfl (RV.tmp _) (Weak.mk' [] _ (List.Perm.refl _) (VwHs.refl _ _) (VwL.refl _ _))) ?_
      exact ⟨rfl, rfl⟩
  | ok ts =>
    cases hy : lex (preL ++ s ++ sufL) with
    | error g => rw [hx, hy] at hp; exact hp.elim
    | ok us =>
      rw [hx, hy] at hp
      rw [hx] at h1; rw [hy] at h2
      simp only [toksOf, fltOf] at h1 h2
      obtain ⟨e1, e2, e3⟩ := hp
      have ht := (hcnt ts hx).2.1
      rw [e1] at h2
      have e2' := Lib.hid e2
      have e3' := Lib.hid e3
      clear hx hy hc0 hln hcnt e2 e3
      (repeat' (first | with_reducible (first | refine awp_seq ?_ | refine awp_region ?_ | refine awp_block ?_ | refine awp_skip ?_ | refine awpL_nil ?_ | refine thenA_normal ?_) | (refine awp_cond _ rfl (fun h => ?_) (fun h => ?_) <;> first | (exact absurd h (by decide)) | ((try (simp only [whn] at h)); skip)) | ((apply awpL_gfb rfl rfl rfl); (case hT => ((try simp only [wtn, List.append_eq, List.foldl_cons, List.foldl_nil, List.map_cons, List.map_nil, Nat.reduceAdd, Nat.reduceMul, Nat.reduceSub, ↓reduceIte, Nat.reduceEqDiff]); rfl))) | ((first | apply awpL_evl2 rfl | apply awpL_g2 _ _ rfl rfl rfl); (case h => ((try (intro (hp : (_ : Bool) = true); ((try simp only [Bool.and_eq_true, Bool.not_eq_true', Bool.not_eq_true] at hp); (try simp only [hp, wte]); (try simp only [whn] at hp)))); (first | (apply Evl_k 0 rfl; (first | exact Evl_mv _ rfl | exact Evl_as _ rfl)) | (apply Evl_k 1 rfl; (exact Evl_pickf _ _ _ rfl rfl)) | (apply Evl_k 2 rfl; (exact Evl_extract _ _ _ _ rfl rfl rfl)) | (apply Evl_k 3 rfl; (exact Evl_len _ _ _ _ _ _ HEl.out rfl rfl)) | (apply Evl_k 5 rfl; (exact Evl_field_x _ _ _ _ _ _ rfl rfl HFld.out)) | (apply Evl_k 6 rfl; (exact Evl_load _ _ _ _ _ _ _ _ rfl rfl FBox.out HAgg.out (by first | exact Nat.le_of_ble_eq_true rfl | fail) (by first | exact Nat.le_of_ble_eq_true rfl | fail))) | (apply Evl_k 11 rfl; (first | exact Evl_call 13 Tryd.f13 _ _ rfl rfl Tryd.func13 (by decide) rfl (VwL.refl _ _) (h1) | exact Evl_call 13 Tryd.f13 _ _ rfl rfl Tryd.func13 (by decide) rfl (VwL.refl _ _) (h2))) | (apply Evl_k 12 rfl; (first | exact Evl_concat _ _ preL _ rfl rfl rfl (by simp [preL]; omega) | exact Evl_concat _ _ _ sufL rfl rfl rfl (by simp [preL, sufL]; omega))) | (apply Evl_x; (case hs => (intro _ _ h; cases h)); (case hx => rfl); (case hrun => (intro w; simp [wtb, AV.val, go_sem]; (try go_bits); rfl)))))); (case hT => ((try simp only [wtn, List.append_eq, List.foldl_cons, List.foldl_nil, List.map_cons, List.map_nil, Nat.reduceAdd, Nat.reduceMul, Nat.reduceSub, ↓reduceIte, Nat.reduceEqDiff]); rfl))) | (refine awpL_cons rfl ?_; ((first | (refine Stp_k 14 rfl ?_; ((refine Stp_alloc _ _ rfl HZero.out rfl (fun b => ?_)))) | (refine Stp_k 16 rfl ?_; ((refine Stp_store _ _ _ _ _ _ _ rfl rfl FBox.out HSize.out (by first | rfl | fail) (by first | exact Nat.le_of_ble_eq_true rfl | fail) ?_)))); apply awpL_cong; (case hT => ((try simp only [wtn, List.append_eq, List.foldl_cons, List.foldl_nil, List.map_cons, List.map_nil, Nat.reduceAdd, Nat.reduceMul, Nat.reduceSub, ↓reduceIte, Nat.reduceEqDiff]); rfl)); (case hH => ((try simp only [wtn, List.append_eq, List.foldl_cons, List.foldl_nil, List.map_cons, List.map_nil, Nat.reduceAdd, Nat.reduceMul, Nat.reduceSub, ↓reduceIte, Nat.reduceEqDiff]); rfl)))) | fail))
      refine awp_loopS (S := Nat) (fun q => frm 134 [(5, .sq ts.length (ta ts)), (7, .sq ts.length (ta us)), (61, .x (.int .i64 ts.length)), (62, .x (.int .i64 q))]) (fun q => []) (fun q => q ≤ ts.length) (fun q => ts.length - q) 0 ?a (Nat.zero_le _) fun q hq => ?_
      case a => exact (Weak.mk' [_, _, _] [] (List.Perm.refl _) (VwHs.refl _ _) (by (repeat' (first | exact VwL.nil | (refine VwL.cons ?_ ?_) | exact Vw.refl _ | exact Vw.top _ | fail))))
      simp only [frm, List.replicate_succ, List.replicate_zero, List.foldl_cons, List.foldl_nil, List.set_cons_zero, List.set_cons_succ]
      by_cases hk : q < ts.length
      · have e := e2'.out q hk (by omega)
        have hdu : (ta us).drop (q * 4) = .x (.int .i64 ts[q].kind) :: .x (.string (bs ts[q].text)) :: .x (.int .i64 (us[q].line : Nat)) :: .x (.int .i64 (us[q].col : Nat)) :: ta (us.drop (q + 1)) := by rw [ta_dropc us q (by omega), e.1, e.2]
        have hdt := ta_dropc ts q hk
        have hul : (ta us).length = ts.length * 4 := by rw [ta_len, e1]
        clear e
        by_cases h0 : 0 < q
        · have hA := e3'.out (q - 1) (by omega)
          unfold PL at hA
          simp only [show q - 1 + 1 = q from by omega] at hA
          have hdm := ta_dropc ts (q - 1) (by omega)
          generalize ts[q] = y at *
          generalize ts[q - 1] = x at *
          generalize us[q] = z at *
          (repeat' (first | with_reducible (first | refine awp_seq ?_ | refine awp_region ?_ | refine awp_block ?_ | refine awp_skip ?_ | refine awpL_nil ?_ | refine dr_nil ?_ | refine thenA_normal ?_ | refine inBlockA_normal ?_) | (with_reducible refine awp_drawnQ mixed ?_ ?_; (decide +kernel)) | (refine awp_cond _ rfl (fun h => ?_) (fun h => ?_) <;> first | (exact absurd h (by decide)) | ((try (simp only [whn] at h)); first | (exfalso; omega; done) | skip)) | ((first | apply awpL_evl2 rfl | apply dr_evl2 rfl | apply dr_g2 _ _ rfl rfl rfl); (case h => ((try (intro (hp : (_ : Bool) = true); ((try simp only [Bool.and_eq_true, Bool.not_eq_true', Bool.not_eq_true] at hp); (try simp only [hp, wte]); (try simp only [whn] at hp)))); (first | (apply Evl_k 0 rfl; (first | exact Evl_mv _ rfl | exact Evl_as _ rfl)) | (apply Evl_k 1 rfl; (first | exact Evl_pickf _ _ _ rfl rfl | exact Evl_and _ _ _ _ _ rfl rfl rfl rfl | exact Evl_and' _ _ _ _ _ rfl rfl rfl rfl | exact Evl_or' _ _ _ _ _ rfl rfl rfl rfl)) | (apply Evl_k 5 rfl; (exact Evl_field_at _ _ _ _ _ rfl rfl HFld.out)) | (apply Evl_k 6 rfl; (exact Evl_load_at _ _ _ _ _ rfl rfl HAgg.out (by first | exact Nat.le_of_ble_eq_true rfl | fail) (by first | exact Nat.le_of_ble_eq_true rfl | fail))) | (apply Evl_k 7 rfl; (first | (exact Evl_index_sq _ _ _ _ _ _ _ _ _ _ rfl rfl rfl HEl.out (nat_dn (by omega)) (by omega) (by simp; omega)) | exact Evl_index_sq _ _ _ _ _ _ _ _ _ _ rfl rfl rfl HEl.out rfl (by first | omega | fail) (by simp; first | omega | fail))) | (apply Evl_x; (case hs => (intro _ _ h; cases h)); (case hx => rfl); (case hrun => (intro w; simp [wtb, AV.val, go_sem]; (try go_bits); rfl)))))); (case hT => ((try simp (disch := omega) only [wtn, hdu, hdt, hdm, List.append_eq, List.foldl_cons, List.foldl_nil, List.map_cons, List.map_nil, Nat.reduceAdd, Nat.reduceMul, Nat.reduceSub, ↓reduceIte, Nat.reduceEqDiff]); rfl))) | fail))
          refine ⟨q + 1, by omega, by omega, ?_⟩
          exact (Weak.mk' [] _ (List.Perm.refl _) (VwHs.refl _ _) (by (repeat' (first | exact VwL.nil | (refine VwL.cons ?_ ?_) | exact Vw.refl _ | exact Vw.top _ | fail))))
        · obtain rfl : q = 0 := by omega
          generalize ts[0] = y at *
          generalize us[0] = z at *
          (repeat' (first | with_reducible (first | refine awp_seq ?_ | refine awp_region ?_ | refine awp_block ?_ | refine awp_skip ?_ | refine awpL_nil ?_ | refine dr_nil ?_ | refine thenA_normal ?_ | refine inBlockA_normal ?_) | (with_reducible refine awp_drawnQ mixed ?_ ?_; (decide +kernel)) | (refine awp_cond _ rfl (fun h => ?_) (fun h => ?_) <;> first | (exact absurd h (by decide)) | ((try (simp only [whn] at h)); first | (exfalso; omega; done) | skip)) | ((apply dr_gfb rfl rfl rfl); (case hT => ((try simp (disch := omega) only [wtn, hdu, hdt, List.append_eq, List.foldl_cons, List.foldl_nil, List.map_cons, List.map_nil, Nat.reduceAdd, Nat.reduceMul, Nat.reduceSub, ↓reduceIte, Nat.reduceEqDiff]); rfl))) | ((first | apply awpL_evl2 rfl | apply dr_evl2 rfl | apply dr_g2 _ _ rfl rfl rfl); (case h => ((try (intro (hp : (_ : Bool) = true); ((try simp only [Bool.and_eq_true, Bool.not_eq_true', Bool.not_eq_true] at hp); (try simp only [hp, wte]); (try simp only [whn] at hp)))); (first | (apply Evl_k 0 rfl; (first | exact Evl_mv _ rfl | exact Evl_as _ rfl)) | (apply Evl_k 1 rfl; (exact Evl_pickf _ _ _ rfl rfl)) | (apply Evl_k 5 rfl; (exact Evl_field_at _ _ _ _ _ rfl rfl HFld.out)) | (apply Evl_k 6 rfl; (exact Evl_load_at _ _ _ _ _ rfl rfl HAgg.out (by first | exact Nat.le_of_ble_eq_true rfl | fail) (by first | exact Nat.le_of_ble_eq_true rfl | fail))) | (apply Evl_k 7 rfl; (exact Evl_index_sq _ _ _ _ _ _ _ _ _ _ rfl rfl rfl HEl.out rfl (by first | omega | fail) (by simp; first | omega | fail))) | (apply Evl_x; (case hs => (intro _ _ h; cases h)); (case hx => rfl); (case hrun => (intro w; simp [wtb, AV.val, go_sem]; (try go_bits); rfl)))))); (case hT => ((try simp (disch := omega) only [wtn, hdu, hdt, List.append_eq, List.foldl_cons, List.foldl_nil, List.map_cons, List.map_nil, Nat.reduceAdd, Nat.reduceMul, Nat.reduceSub, ↓reduceIte, Nat.reduceEqDiff]); rfl))) | fail))
          refine ⟨0 + 1, by omega, by omega, ?_⟩
          exact (Weak.mk' [] _ (List.Perm.refl _) (VwHs.refl _ _) (by (repeat' (first | exact VwL.nil | (refine VwL.cons ?_ ?_) | exact Vw.refl _ | exact Vw.top _ | fail))))
      · (repeat' (first | with_reducible (first | refine awp_seq ?_ | refine awp_region ?_ | refine awp_ret ?_ | refine awp_exit ?_ | refine awpL_nil ?_ | refine thenA_normal ?_ | refine thenA_exit ?_ | refine inBlockA_eq ?_) | (refine awp_cond _ rfl (fun h => ?_) (fun h => ?_) <;> ((try (simp only [whn] at h)); first | (exfalso; omega; done) | skip)) | ((apply awpL_evl2 rfl); (case h => ((try (intro (hp : (_ : Bool) = true); ((try simp only [Bool.and_eq_true, Bool.not_eq_true', Bool.not_eq_true] at hp); (try simp only [hp, wte]); (try simp only [whn] at hp)))); (first | (apply Evl_k 0 rfl; (exact Evl_as _ rfl)) | (apply Evl_x; (case hs => (intro _ _ h; cases h)); (case hx => rfl); (case hrun => (intro w; simp [wtb, AV.val, go_sem]; (try go_bits); rfl)))))); (case hT => ((try simp only [wtn, List.append_eq, List.foldl_cons, List.foldl_nil, List.map_cons, List.map_nil, Nat.reduceAdd, Nat.reduceMul, Nat.reduceSub, ↓reduceIte, Nat.reduceEqDiff]); rfl))) | fail))
        refine endA_ret _ _ (Res1 rfl (RV.tmp _) (Weak.mk' [] _ (List.Perm.refl _) (VwHs.refl _ _) (VwL.refl _ _))) ?_
        exact ⟨rfl, rfl⟩
end Go.Proofs.YtfaljkenmbbbaaaDoor
/- LexerJoins, in plain Lean. No program in sight. -/
namespace Go.Proofs.YtfaljkenmbbbaaaDoor
open Go.RowKit
set_option linter.unusedSimpArgs false
set_option linter.unusedVariables false
/-- How many lines end in a text. -/
def nls : List UInt8 → Nat
  | [] => 0
  | c :: r => (if c.toNat = 10 then 1 else 0) + nls r
theorem nls_app : ∀ a b : List UInt8, nls (a ++ b) = nls a + nls b
  | [], b => by simp [nls]
  | c :: a, b => by rw [List.cons_append, nls, nls, nls_app a b]; omega
theorem nls_le : ∀ a : List UInt8, nls a ≤ a.length
  | [] => Nat.le_refl _
  | c :: a => by rw [nls, List.length_cons]; have := nls_le a; split <;> omega
theorem nls_succ (s : List UInt8) (k : Nat) (h : k < s.length) : nls (s.take (k + 1)) = nls (s.take k) + (if s[k].toNat = 10 then 1 else 0) := by
  rw [List.take_succ_eq_append_getElem h, nls_app]; simp [nls]
theorem plc_nls : ∀ (l : List UInt8) (p : Nat × Nat), (plc p l).1 = p.1 + nls l
  | [], p => rfl
  | c :: r, p => by
    simp only [plc, nls]
    rw [plc_nls r]
    split <;> simp only <;> omega
theorem plc_nl (s : List UInt8) : plc (1, 1) (s ++ [10]) = (1 + (nls s + 1), 1) := by
  rw [plc_app']
  have := plc_nls s (1, 1)
  simp only at this
  show plc (if (10 : UInt8).toNat = 10 then ((plc (1, 1) s).1 + 1, 1) else _) [] = _
  rw [if_pos (by decide), this]
  simp only [plc, Nat.add_assoc]
theorem lexGo_more : ∀ (m : Nat) (l : List UInt8) (p : Nat × Nat) (n n' : Nat), l.length ≤ m → ∀ ts, lexGo p n l = .ok ts → lexGo p n' l = .ok ts ∨ ∃ f, lexGo p n' l = .error f ∧ f.code = 1
  | m, l, p, n, n', hm, ts, h => by
    cases hd : l.drop (skp l) with
    | nil => rw [lexGo_end p n l hd] at h; rw [lexGo_end p n' l hd]; exact .inl h
    | cons x r =>
      have hlen := congrArg List.length hd
      simp only [List.length_drop, List.length_cons] at hlen
      cases h1 : one (x :: r) with
      | error e => rw [lexGo_bad _ _ _ x r e hd h1] at h; cases h
      | ok z =>
        by_cases hn : 2000 ≤ n
        · rw [lexGo_full _ _ _ x r z hd h1 hn] at h; cases h
        · by_cases hn' : 2000 ≤ n'
          · rw [lexGo_full _ _ _ x r z hd h1 hn']; exact .inr ⟨_, rfl, rfl⟩
          · obtain ⟨a, b, k⟩ := z
            have g := one_le h1
            simp only [List.length_cons] at g
            rw [lexGo_one _ _ _ x r a b k hd h1 g.1 (by omega)] at h ⊢
            cases m with
            | zero => omega
            | succ m =>
              cases hr : lexGo (plc p (l.take (skp l + k))) (n + 1) ((x :: r).drop k) with
              | error f => rw [hr] at h; cases h
              | ok ys =>
                rw [hr] at h
                rcases lexGo_more m ((x :: r).drop k) _ (n + 1) (n' + 1) (by simp; omega) ys hr with h3 | ⟨f, h3, h4⟩
                · rw [h3]; exact .inl h
                · rw [h3]; exact .inr ⟨f, rfl, h4⟩
theorem joins_plain (s t : List UInt8) (hl : s.length + t.length ≤ 8000) (tb : List Tok) (hb : lex t = .ok tb) :
    (∃ f, lex s = .error f ∧ lex (s ++ [10] ++ t) = .error f) ∨
    ∃ qs e, lex s = .ok (qs ++ [e]) ∧ ((∃ h, lex (s ++ [10] ++ t) = .error h ∧ h.code = 1) ∨ ∃ ub, lex (s ++ [10] ++ t) = .ok (qs ++ ub) ∧ TRs (nls s + 1) true tb ub) := by
  unfold lex at hb ⊢
  rw [if_neg (by omega)] at hb
  rw [if_neg (by omega), if_neg (by simp; omega), List.append_assoc, List.singleton_append]
  obtain ⟨k1, k2⟩ := lexGo_app t s.length s (1, 1) 0 (Nat.le_refl _)
  cases hs : lexGo (1, 1) 0 s with
  | error f => exact .inl ⟨f, rfl, k1 f hs⟩
  | ok ts =>
    obtain ⟨qs, e, rfl, -, -, hx⟩ := k2 ts hs
    refine .inr ⟨qs, e, rfl, ?_⟩
    rw [hx, plc_nl, Nat.zero_add]
    have hpd := lexGo_pd (d := nls s + 1) (c := true) t.length t (1, 1) (1 + (nls s + 1), 1) 0 (Nat.le_refl _) ⟨rfl, fun _ => rfl⟩
    rw [hb] at hpd
    cases h4 : lexGo (1 + (nls s + 1), 1) 0 t with
    | error g => rw [h4] at hpd; exact hpd.elim
    | ok us =>
      rw [h4] at hpd
      rcases lexGo_more t.length t _ 0 qs.length (Nat.le_refl _) us h4 with h5 | ⟨f, h5, h6⟩
      · rw [h5]; exact .inr ⟨us, rfl, hpd⟩
      · rw [h5]; exact .inl ⟨f, rfl, h6⟩
end Go.Proofs.YtfaljkenmbbbaaaDoor
/- LexerJoins: the walk. -/
namespace Go.Proofs.YtfaljkenmbbbaaaDoor
open Go.RowKit
set_option linter.unusedSimpArgs false
set_option linter.unusedVariables false
attribute [local simp] ta_len
theorem ta_take (qs : List Tok) (r : List AV) : (ta qs ++ r).take (qs.length * 4) = ta qs := by
  rw [← ta_len, List.take_left]
theorem ta_drop_app (qs ub : List Tok) (q : Nat) (h : q < ub.length) : (ta qs ++ ta ub).drop ((qs.length + q) * 4) = .x (.int .i64 ub[q].kind) :: .x (.string (bs ub[q].text)) :: .x (.int .i64 (ub[q].line : Nat)) :: .x (.int .i64 (ub[q].col : Nat)) :: ta (ub.drop (q + 1)) := by
  rw [List.drop_append, List.drop_eq_nil_of_le (by rw [ta_len]; omega), List.nil_append, ta_len, show (qs.length + q) * 4 - qs.length * 4 = q * 4 by omega, ta_dropc ub q h]
set_option maxRecDepth 100000 in
set_option maxHeartbeats 8000000 in
theorem joins_s (l m : List Int) (hd : DK l) (hm : DK m) : Spec Tryd.prog 7 [] [.sq l.length (ia l), .sq m.length (ia m)] (fun r H' => r = .x (.bool true) ∧ H' = []) := by
  refine Spec_of Tryd.func7 rfl ?_
  simp only [Tryd.ntmps7, List.length_cons, List.length_nil, List.replicate_succ, List.replicate_zero, List.cons_append, List.nil_append, Nat.reduceAdd, Nat.reduceSub]
  (repeat' (first | with_reducible (first | refine awp_seq ?_ | refine awp_region ?_ | refine awp_skip ?_ | refine awpL_nil ?_ | refine thenA_normal ?_) | (refine awp_cond _ rfl (fun h => ?_) (fun h => ?_) <;> first | (exact absurd h (by decide)) | ((try (simp only [whn] at h)); skip)) | ((apply awpL_evl2 rfl); (case h => ((try (intro (hp : (_ : Bool) = true); ((try simp only [Bool.and_eq_true, Bool.not_eq_true', Bool.not_eq_true] at hp); (try simp only [hp, wte]); (try simp only [whn] at hp)))); (first | (apply Evl_k 0 rfl; (first | exact Evl_mv _ rfl | exact Evl_as _ rfl)) | (apply Evl_k 11 rfl; (exact Evl_call 9 Tryd.f9 _ _ rfl rfl Tryd.func9 (by decide) rfl (VwL.refl _ _) (sane_s))) | (apply Evl_x; (case hs => (intro _ _ h; cases h)); (case hx => rfl); (case hrun => (intro w; simp [wtb, AV.val, go_sem]; (try go_bits); rfl)))))); (case hT => ((try simp only [wtn, List.append_eq, List.foldl_cons, List.foldl_nil, List.map_cons, List.map_nil, Nat.reduceAdd, Nat.reduceMul, Nat.reduceSub, ↓reduceIte, Nat.reduceEqDiff]); rfl))) | (refine awpL_cons rfl ?_; (((refine Stp_k 11 rfl ?_; (first | (refine Stp_call 10 Tryd.f10 ([]) _ _ _ rfl rfl Tryd.func10 (by decide) rfl (List.Perm.refl _) (VwL.refl _ _) (new_w l []) ?_; rintro _ _ ⟨bd, rfl, rfl⟩) | (refine Stp_call 10 Tryd.f10 ([]) _ _ _ rfl rfl Tryd.func10 (by decide) rfl (List.Perm.refl _) (VwL.refl _ _) (new_w m []) ?_; rintro _ _ ⟨bd2, rfl, rfl⟩) | (refine Stp_call 12 Tryd.f12 [_] _ _ _ rfl rfl Tryd.func12 (by decide) rfl (List.Perm.refl _) (VwL.refl _ _) (procfile_w _ l 0 hd (Nat.zero_le _)) ?_; rintro _ _ ⟨s0, k1, rfl, rfl, hk1, hs0, hx0⟩) | (refine Stp_call 12 Tryd.f12 [_] _ _ _ rfl rfl Tryd.func12 (by decide) rfl (List.Perm.refl _) (VwL.refl _ _) (procfile_w _ m 0 hm (Nat.zero_le _)) ?_; rintro _ _ ⟨t, k3, rfl, rfl, hk3, ht0, hxt⟩) | (refine Stp_call 11 Tryd.f11 [_] _ _ _ rfl rfl Tryd.func11 (by decide) rfl (List.Perm.refl _) (VwL.refl _ _) (spoil_w _ l _ _ hd (by assumption) (by omega)) ?_; rintro _ _ ⟨s, k2, rfl, rfl, hk2, hs⟩)))); apply awpL_cong; (case hT => ((try simp only [wtn, List.append_eq, List.foldl_cons, List.foldl_nil, List.map_cons, List.map_nil, Nat.reduceAdd, Nat.reduceMul, Nat.reduceSub, ↓reduceIte, Nat.reduceEqDiff]); rfl)); (case hH => ((try simp only [wtn, List.append_eq, List.foldl_cons, List.foldl_nil, List.map_cons, List.map_nil, Nat.reduceAdd, Nat.reduceMul, Nat.reduceSub, ↓reduceIte, Nat.reduceEqDiff]); rfl)))) | fail))
  obtain ⟨tb, hb⟩ := hxt
  have h1 := lall_s s (by omega)
  have h2 := lall_s t (by omega)
  have h3 := lall_s (s ++ [10] ++ t) (by simp; omega)
  have hj := joins_plain s t (by omega) tb hb
  have htb := ((lex_facts t).2 tb hb).2.1
  have htl := (lex_line t).2 tb hb
  have hc0 := (lex_facts s).1
  have hcnt := (lex_facts s).2
  have hns := nls_le s
  rw [hb] at h2
  simp only [toksOf, fltOf, Flt.av] at h1 h2 h3
  clear hb
  rcases hj with ⟨f, e1, e2⟩ | ⟨qs, e, e1, ⟨g, e2, e3⟩ | ⟨ub, e2, htr⟩⟩
  · rw [e1] at h1; rw [e2] at h3
    have hf0 := hc0 f e1
    simp only [toksOf, fltOf] at h1 h3
    clear e1 e2 hc0 hcnt htl
    obtain ⟨cc, hcc⟩ : ∃ c, f.code = c := ⟨_, rfl⟩
    rw [hcc] at h1 h3 hf0
    (repeat' (first | with_reducible (first | refine awp_seq ?_ | refine awp_region ?_ | refine awp_ret ?_ | refine awpL_nil ?_ | refine thenA_normal ?_ | refine thenA_ret ?_) | (refine awp_cond _ rfl (fun h => ?_) (fun h => ?_) <;> ((try (simp only [whn] at h)); first | (exfalso; omega; done) | skip)) | ((apply awpL_evl2 rfl); (case h => ((try (intro (hp : (_ : Bool) = true); ((try simp only [Bool.and_eq_true, Bool.not_eq_true', Bool.not_eq_true] at hp); (try simp only [hp, wte]); (try simp only [whn] at hp)))); (first | (apply Evl_k 0 rfl; (first | exact Evl_mv _ rfl | exact Evl_as _ rfl)) | (apply Evl_k 2 rfl; (exact Evl_extract _ _ _ _ rfl rfl rfl)) | (apply Evl_k 5 rfl; (exact Evl_field_x _ _ _ _ _ _ rfl rfl HFld.out)) | (apply Evl_k 6 rfl; (exact Evl_load _ _ _ _ _ _ _ _ rfl rfl FBox.out HAgg.out (by first | exact Nat.le_of_ble_eq_true rfl | fail) (by first | exact Nat.le_of_ble_eq_true rfl | fail))) | (apply Evl_k 11 rfl; (first | exact Evl_call 13 Tryd.f13 _ _ rfl rfl Tryd.func13 (by decide) rfl (VwL.refl _ _) (h1) | exact Evl_call 13 Tryd.f13 _ _ rfl rfl Tryd.func13 (by decide) rfl (VwL.refl _ _) (h2) | exact Evl_call 13 Tryd.f13 _ _ rfl rfl Tryd.func13 (by decide) rfl (VwL.refl _ _) (h3))) | (apply Evl_k 12 rfl; (first | exact Evl_concat _ _ s [10] rfl rfl rfl (by simp; omega) | exact Evl_concat _ _ (s ++ [10]) t rfl rfl rfl (by simp; omega))) | (apply Evl_x; (case hs => (intro _ _ h; cases h)); (case hx => rfl); (case hrun => (intro w; simp [wtb, AV.val, go_sem]; (try go_bits); rfl)))))); (case hT => ((try simp only [wtn, List.append_eq, List.foldl_cons, List.foldl_nil, List.map_cons, List.map_nil, Nat.reduceAdd, Nat.reduceMul, Nat.reduceSub, ↓reduceIte, Nat.reduceEqDiff]); rfl))) | (refine awpL_cons rfl ?_; ((first | (refine Stp_k 14 rfl ?_; ((refine Stp_alloc _ _ rfl HZero.out rfl (fun b => ?_)))) | (refine Stp_k 16 rfl ?_; ((refine Stp_store _ _ _ _ _ _ _ rfl rfl FBox.out HSize.out (by first | rfl | fail) (by first | exact Nat.le_of_ble_eq_true rfl | fail) ?_)))); apply awpL_cong; (case hT => ((try simp only [wtn, List.append_eq, List.foldl_cons, List.foldl_nil, List.map_cons, List.map_nil, Nat.reduceAdd, Nat.reduceMul, Nat.reduceSub, ↓reduceIte, Nat.reduceEqDiff]); rfl)); (case hH => ((try simp only [wtn, List.append_eq, List.foldl_cons, List.foldl_nil, List.map_cons, List.map_nil, Nat.reduceAdd, Nat.reduceMul, Nat.reduceSub, ↓reduceIte, Nat.reduceEqDiff]); rfl)))) | fail))
    refine endA_ret _ _ (Res1 rfl (RV.tmp _) (Weak.mk' [_, _, _, _, _] [] (List.Perm.refl _) (VwHs.refl _ _) (by first | exact VwL.refl _ _ | fail))) ?_
    exact ⟨rfl, rfl⟩
  · rw [e1] at h1; rw [e2] at h3
    simp only [toksOf, fltOf, e3] at h1 h3
    clear e1 e2 hc0 hcnt htl e3
    (repeat' (first | with_reducible (first | refine awp_seq ?_ | refine awp_region ?_ | refine awp_ret ?_ | refine awp_skip ?_ | refine awpL_nil ?_ | refine thenA_normal ?_ | refine thenA_ret ?_) | (refine awp_cond _ rfl (fun h => ?_) (fun h => ?_) <;> first | (exact absurd h (by decide)) | ((try (simp only [whn] at h)); skip)) | ((apply awpL_gf rfl rfl rfl); (case hT => ((try simp only [wtn, List.append_eq, List.foldl_cons, List.foldl_nil, List.map_cons, List.map_nil, Nat.reduceAdd, Nat.reduceMul, Nat.reduceSub, ↓reduceIte, Nat.reduceEqDiff]); rfl))) | ((first | apply awpL_evl2 rfl | apply awpL_g2 _ _ rfl rfl rfl); (case h => ((try (intro (hp : (_ : Bool) = true); ((try simp only [Bool.and_eq_true, Bool.not_eq_true', Bool.not_eq_true] at hp); (try simp only [hp, wte]); (try simp only [whn] at hp)))); (first | (apply Evl_k 0 rfl; (first | exact Evl_mv _ rfl | exact Evl_as _ rfl)) | (apply Evl_k 1 rfl; (first | exact Evl_pickf _ _ _ rfl rfl | exact Evl_pickt _ _ _ rfl rfl)) | (apply Evl_k 2 rfl; (exact Evl_extract _ _ _ _ rfl rfl rfl)) | (apply Evl_k 3 rfl; (exact Evl_len _ _ _ _ _ _ HEl.out rfl rfl)) | (apply Evl_k 5 rfl; (exact Evl_field_x _ _ _ _ _ _ rfl rfl HFld.out)) | (apply Evl_k 6 rfl; (exact Evl_load _ _ _ _ _ _ _ _ rfl rfl FBox.out HAgg.out (by first | exact Nat.le_of_ble_eq_true rfl | fail) (by first | exact Nat.le_of_ble_eq_true rfl | fail))) | (apply Evl_k 11 rfl; (first | exact Evl_call 13 Tryd.f13 _ _ rfl rfl Tryd.func13 (by decide) rfl (VwL.refl _ _) (h1) | exact Evl_call 13 Tryd.f13 _ _ rfl rfl Tryd.func13 (by decide) rfl (VwL.refl _ _) (h2) | exact Evl_call 13 Tryd.f13 _ _ rfl rfl Tryd.func13 (by decide) rfl (VwL.refl _ _) (h3))) | (apply Evl_k 12 rfl; (first | exact Evl_concat _ _ s [10] rfl rfl rfl (by simp; omega) | exact Evl_concat _ _ (s ++ [10]) t rfl rfl rfl (by simp; omega))) | (apply Evl_x; (case hs => (intro _ _ h; cases h)); (case hx => rfl); (case hrun => (intro w; simp [wtb, AV.val, go_sem]; (try go_bits); rfl)))))); (case hT => ((try simp only [wtn, List.append_eq, List.foldl_cons, List.foldl_nil, List.map_cons, List.map_nil, Nat.reduceAdd, Nat.reduceMul, Nat.reduceSub, ↓reduceIte, Nat.reduceEqDiff]); rfl))) | (refine awpL_cons rfl ?_; ((first | (refine Stp_k 14 rfl ?_; ((refine Stp_alloc _ _ rfl HZero.out rfl (fun b => ?_)))) | (refine Stp_k 16 rfl ?_; ((refine Stp_store _ _ _ _ _ _ _ rfl rfl FBox.out HSize.out (by first | rfl | fail) (by first | exact Nat.le_of_ble_eq_true rfl | fail) ?_)))); apply awpL_cong; (case hT => ((try simp only [wtn, List.append_eq, List.foldl_cons, List.foldl_nil, List.map_cons, List.map_nil, Nat.reduceAdd, Nat.reduceMul, Nat.reduceSub, ↓reduceIte, Nat.reduceEqDiff]); rfl)); (case hH => ((try simp only [wtn, List.append_eq, List.foldl_cons, List.foldl_nil, List.map_cons, List.map_nil, Nat.reduceAdd, Nat.reduceMul, Nat.reduceSub, ↓reduceIte, Nat.reduceEqDiff]); rfl)))) | fail))
    refine endA_ret _ _ (Res1 rfl (RV.tmp _) (Weak.mk' [_, _, _, _, _] [] (List.Perm.refl _) (VwHs.refl _ _) (by first | exact VwL.refl _ _ | fail))) ?_
    exact ⟨rfl, rfl⟩
  · have hq := (hcnt _ e1).2.1
    rw [e1] at h1; rw [e2] at h3
    have hlen := htr.len
    simp only [toksOf, fltOf, ta_app, List.length_append, List.length_cons, List.length_nil, Nat.zero_add, hlen] at h1 h3 hq
    clear e1 e2 hc0 hcnt
    have e1n : ((qs.length + 1 : Nat) : Int) - 1 = (qs.length : Int) := by omega
    have htr' := Lib.hid htr
    have htl' := Lib.hid htl
    clear htr htl
    (repeat' (first | with_reducible (first | refine awp_seq ?_ | refine awp_region ?_ | refine awp_block ?_ | refine awp_skip ?_ | refine awpL_nil ?_ | refine thenA_normal ?_) | (refine awp_cond _ rfl (fun h => ?_) (fun h => ?_) <;> first | (exact absurd h (by decide)) | ((try (simp only [whn] at h)); first | (exfalso; omega; done) | skip)) | ((first | apply awpL_evl2 rfl | apply awpL_g2 _ _ rfl rfl rfl); (case h => ((try (intro (hp : (_ : Bool) = true); ((try simp only [Bool.and_eq_true, Bool.not_eq_true', Bool.not_eq_true] at hp); (try simp only [hp, wte]); (try simp only [whn] at hp)))); (first | (apply Evl_k 0 rfl; (first | exact Evl_mv _ rfl | exact Evl_as _ rfl)) | (apply Evl_k 1 rfl; (exact Evl_pickf _ _ _ rfl rfl)) | (apply Evl_k 2 rfl; (exact Evl_extract _ _ _ _ rfl rfl rfl)) | (apply Evl_k 3 rfl; (exact Evl_len _ _ _ _ _ _ HEl.out rfl rfl)) | (apply Evl_k 5 rfl; (exact Evl_field_x _ _ _ _ _ _ rfl rfl HFld.out)) | (apply Evl_k 6 rfl; (exact Evl_load _ _ _ _ _ _ _ _ rfl rfl FBox.out HAgg.out (by first | exact Nat.le_of_ble_eq_true rfl | fail) (by first | exact Nat.le_of_ble_eq_true rfl | fail))) | (apply Evl_k 11 rfl; (first | exact Evl_call 13 Tryd.f13 _ _ rfl rfl Tryd.func13 (by decide) rfl (VwL.refl _ _) (h1) | exact Evl_call 13 Tryd.f13 _ _ rfl rfl Tryd.func13 (by decide) rfl (VwL.refl _ _) (h2) | exact Evl_call 13 Tryd.f13 _ _ rfl rfl Tryd.func13 (by decide) rfl (VwL.refl _ _) (h3))) | (apply Evl_k 12 rfl; (first | exact Evl_concat _ _ s [10] rfl rfl rfl (by simp; omega) | exact Evl_concat _ _ (s ++ [10]) t rfl rfl rfl (by simp; omega))) | (apply Evl_x; (case hs => (intro _ _ h; cases h)); (case hx => rfl); (case hrun => (intro w; simp [wtb, AV.val, go_sem]; (try go_bits); rfl)))))); (case hT => ((try simp (disch := omega) only [wtn, e1n, List.append_eq, List.foldl_cons, List.foldl_nil, List.map_cons, List.map_nil, Nat.reduceAdd, Nat.reduceMul, Nat.reduceSub, ↓reduceIte, Nat.reduceEqDiff]); rfl))) | (refine awpL_cons rfl ?_; ((first | (refine Stp_k 14 rfl ?_; ((refine Stp_alloc _ _ rfl HZero.out rfl (fun b => ?_)))) | (refine Stp_k 16 rfl ?_; ((refine Stp_store _ _ _ _ _ _ _ rfl rfl FBox.out HSize.out (by first | rfl | fail) (by first | exact Nat.le_of_ble_eq_true rfl | fail) ?_)))); apply awpL_cong; (case hT => ((try simp (disch := omega) only [wtn, e1n, List.append_eq, List.foldl_cons, List.foldl_nil, List.map_cons, List.map_nil, Nat.reduceAdd, Nat.reduceMul, Nat.reduceSub, ↓reduceIte, Nat.reduceEqDiff]); rfl)); (case hH => ((try simp (disch := omega) only [wtn, e1n, List.append_eq, List.foldl_cons, List.foldl_nil, List.map_cons, List.map_nil, Nat.reduceAdd, Nat.reduceMul, Nat.reduceSub, ↓reduceIte, Nat.reduceEqDiff]); rfl)))) | fail))
    refine awp_loopS (S := Nat) (fun q => frm 148 [(6, .x (.string (bs s))), (8, .sq (qs.length + 1) (ta qs ++ ta [e])), (10, .sq tb.length (ta tb)), (12, .sq (qs.length + tb.length) (ta qs ++ ta ub)), (14, .x (.int .i64 ((1 + nls (s.take q) : Nat) : Int))), (15, .x (.int .i64 q))]) (fun q => []) (fun q => q ≤ s.length) (fun q => s.length - q) 0 ?a (Nat.zero_le _) fun q hq1 => ?_
    case a => exact (Weak.mk' [_, _, _, _, _] [] (List.Perm.refl _) (VwHs.refl _ _) (by (repeat' (first | exact VwL.nil | (refine VwL.cons ?_ ?_) | exact Vw.refl _ | exact Vw.top _ | fail))))
    simp only [frm, List.replicate_succ, List.replicate_zero, List.foldl_cons, List.foldl_nil, List.set_cons_zero, List.set_cons_succ]
    by_cases hk : q < s.length
    · have hnt := nls_le (s.take q)
      rw [List.length_take] at hnt
      have hsu := Lib.hid (nls_succ s q hk)
      have hgq : Hid (s[q]?.getD 0 = s[q]) := Lib.hid (by rw [List.getElem?_eq_getElem hk]; rfl)
      (repeat' (first | with_reducible (first | refine awp_seq ?_ | refine awp_region ?_ | refine awp_block ?_ | refine awp_skip ?_ | refine awpL_nil ?_ | refine thenA_normal ?_ | refine inBlockA_normal ?_) | (refine awp_cond _ rfl (fun h => ?_) (fun h => ?_) <;> ((try (simp only [whn] at h)); first | (exfalso; omega; done) | skip)) | ((apply awpL_evl2 rfl); (case h => ((try (intro (hp : (_ : Bool) = true); ((try simp only [Bool.and_eq_true, Bool.not_eq_true', Bool.not_eq_true] at hp); (try simp only [hp, wte]); (try simp only [whn] at hp)))); (first | (apply Evl_k 0 rfl; (first | exact Evl_mv _ rfl | exact Evl_as _ rfl)) | (apply Evl_k 8 rfl; (exact Evl_index_str _ _ _ _ _ _ _ rfl rfl rfl (by kernel_rfl) rfl (by omega))) | (apply Evl_x; (case hs => (intro _ _ h; cases h)); (case hx => rfl); (case hrun => (intro w; simp [wtb, AV.val, go_sem]; (try go_bits); rfl)))))); (case hT => ((try simp only [wtn, List.append_eq, List.foldl_cons, List.foldl_nil, List.map_cons, List.map_nil, Nat.reduceAdd, Nat.reduceMul, Nat.reduceSub, ↓reduceIte, Nat.reduceEqDiff]); rfl))) | fail))
      · refine ⟨q + 1, by omega, by omega, ?_⟩
        rw [hsu.out, if_pos (by rw [hgq.out] at h; omega)]
        exact (Weak.mk' [] _ (List.Perm.refl _) (VwHs.refl _ _) (by (repeat' (first | exact VwL.nil | (refine VwL.cons ?_ ?_) | exact Vw.refl _ | exact Vw.top _ | fail))))
      · refine ⟨q + 1, by omega, by omega, ?_⟩
        rw [hsu.out, if_neg (by rw [hgq.out] at h; omega)]
        exact (Weak.mk' [] _ (List.Perm.refl _) (VwHs.refl _ _) (by (repeat' (first | exact VwL.nil | (refine VwL.cons ?_ ?_) | exact Vw.refl _ | exact Vw.top _ | fail))))
    obtain rfl : q = s.length := by omega
    rw [List.take_length]
    (repeat' (first | with_reducible (first | refine awp_seq ?_ | refine awp_region ?_ | refine awp_block ?_ | refine awp_exit ?_ | refine awpL_nil ?_ | refine thenA_normal ?_ | refine thenA_exit ?_ | refine inBlockA_eq ?_) | (refine awp_cond _ rfl (fun h => ?_) (fun h => ?_) <;> first | (exact absurd h (by decide)) | ((try (simp only [whn] at h)); skip)) | ((apply awpL_evl2 rfl); (case h => ((try (intro (hp : (_ : Bool) = true); ((try simp only [Bool.and_eq_true, Bool.not_eq_true', Bool.not_eq_true] at hp); (try simp only [hp, wte]); (try simp only [whn] at hp)))); (first | (apply Evl_k 0 rfl; (exact Evl_mv _ rfl)) | (apply Evl_k 3 rfl; (exact Evl_len _ _ _ _ _ _ HEl.out rfl rfl)) | (apply Evl_x; (case hs => (intro _ _ h; cases h)); (case hx => rfl); (case hrun => (intro w; simp [wtb, AV.val, go_sem]; (try go_bits); rfl)))))); (case hT => ((try simp only [wtn, List.append_eq, List.foldl_cons, List.foldl_nil, List.map_cons, List.map_nil, Nat.reduceAdd, Nat.reduceMul, Nat.reduceSub, ↓reduceIte, Nat.reduceEqDiff]); rfl))) | fail))
    refine awp_loopS (S := Nat) (fun q => frm 148 [(8, .sq (qs.length + 1) (ta qs ++ ta [e])), (12, .sq (qs.length + tb.length) (ta qs ++ ta ub)), (14, .x (.int .i64 ((1 + nls s : Nat) : Int))), (93, .sq tb.length (ta tb)), (94, .x (.int .i64 tb.length)), (95, .x (.int .i64 q))]) (fun q => []) (fun q => q ≤ tb.length) (fun q => tb.length - q) 0 ?b (Nat.zero_le _) fun q hq2 => ?_
    case b => exact (Weak.mk' [] _ (List.Perm.refl _) (VwHs.refl _ _) (by (repeat' (first | exact VwL.nil | (refine VwL.cons ?_ ?_) | exact Vw.refl _ | exact Vw.top _ | fail))))
    simp only [frm, List.replicate_succ, List.replicate_zero, List.foldl_cons, List.foldl_nil, List.set_cons_zero, List.set_cons_succ]
    by_cases hk : q < tb.length
    · obtain ⟨r1, r2, r3, r4⟩ := htr'.out.get q hk (by omega)
      have hdt := ta_dropc tb q hk
      have hdc := ta_drop_app qs ub q (by omega)
      have hxl := htl'.out tb[q] (List.getElem_mem hk)
      rw [r1, r2, r3, r4 rfl] at hdc
      generalize tb[q] = x at *
      have hul : (ta qs ++ ta ub).length = (qs.length + tb.length) * 4 := by simp [hlen]; omega
      clear r1 r2 r3 r4
      (repeat' (first | with_reducible (first | refine awp_seq ?_ | refine awp_region ?_ | refine awp_block ?_ | refine awp_skip ?_ | refine awpL_nil ?_ | refine thenA_normal ?_ | refine inBlockA_normal ?_) | (refine awp_cond _ rfl (fun h => ?_) (fun h => ?_) <;> ((try (simp only [whn] at h)); first | (exfalso; omega; done) | skip)) | ((first | apply awpL_evl2 rfl | apply awpL_g2 _ _ rfl rfl rfl); (case h => ((try (intro (hp : (_ : Bool) = true); ((try simp only [Bool.and_eq_true, Bool.not_eq_true', Bool.not_eq_true] at hp); (try simp only [hp, wte]); (try simp only [whn] at hp)))); (first | (apply Evl_k 0 rfl; (first | exact Evl_mv _ rfl | exact Evl_as _ rfl)) | (apply Evl_k 1 rfl; (exact Evl_pickf _ _ _ rfl rfl)) | (apply Evl_k 3 rfl; (exact Evl_len _ _ _ _ _ _ HEl.out rfl rfl)) | (apply Evl_k 5 rfl; (exact Evl_field_x _ _ _ _ _ _ rfl rfl HFld.out)) | (apply Evl_k 6 rfl; (first | exact Evl_load_at _ _ _ _ _ rfl rfl HAgg.out (by first | exact Nat.le_of_ble_eq_true rfl | fail) (by first | exact Nat.le_of_ble_eq_true rfl | fail) | exact Evl_load _ _ _ _ _ _ _ _ rfl rfl FBox.out HAgg.out (by first | exact Nat.le_of_ble_eq_true rfl | fail) (by first | exact Nat.le_of_ble_eq_true rfl | fail))) | (apply Evl_k 7 rfl; (first | exact Evl_index_sq _ _ _ _ _ _ _ _ (qs.length + q) _ rfl rfl rfl HEl.out (by omega) (by omega) (by omega) | exact Evl_index_sq _ _ _ _ _ _ _ _ _ _ rfl rfl rfl HEl.out rfl (by first | omega | fail) (by simp; first | omega | fail))) | (apply Evl_x; (case hs => (intro _ _ h; cases h)); (case hx => rfl); (case hrun => (intro w; simp [wtb, AV.val, go_sem]; (try go_bits); rfl)))))); (case hT => ((try simp (disch := omega) only [wtn, e1n, hdt, hdc, List.append_eq, List.foldl_cons, List.foldl_nil, List.map_cons, List.map_nil, Nat.reduceAdd, Nat.reduceMul, Nat.reduceSub, ↓reduceIte, Nat.reduceEqDiff]); rfl))) | (refine awpL_cons rfl ?_; ((first | (refine Stp_k 14 rfl ?_; ((refine Stp_alloc _ _ rfl HZero.out rfl (fun b => ?_)))) | (refine Stp_k 16 rfl ?_; ((refine Stp_store _ _ _ _ _ _ _ rfl rfl FBox.out HSize.out (by first | rfl | fail) (by first | exact Nat.le_of_ble_eq_true rfl | fail) ?_)))); apply awpL_cong; (case hT => ((try simp (disch := omega) only [wtn, e1n, hdt, hdc, List.append_eq, List.foldl_cons, List.foldl_nil, List.map_cons, List.map_nil, Nat.reduceAdd, Nat.reduceMul, Nat.reduceSub, ↓reduceIte, Nat.reduceEqDiff]); rfl)); (case hH => ((try simp (disch := omega) only [wtn, e1n, hdt, hdc, List.append_eq, List.foldl_cons, List.foldl_nil, List.map_cons, List.map_nil, Nat.reduceAdd, Nat.reduceMul, Nat.reduceSub, ↓reduceIte, Nat.reduceEqDiff]); rfl)))) | fail))
      refine ⟨q + 1, by omega, by omega, ?_⟩
      exact (Weak.mk' [_, _] [] (List.Perm.refl _) (VwHs.refl _ _) (by (repeat' (first | exact VwL.nil | (refine VwL.cons ?_ ?_) | exact Vw.refl _ | exact Vw.top _ | fail))))
    · have hsm := same_s qs (by omega)
      have t1 := ta_take qs (ta [e])
      have t2 := ta_take qs (ta ub)
      (repeat' (first | with_reducible (first | refine awp_seq ?_ | refine awp_region ?_ | refine awp_ret ?_ | refine awp_exit ?_ | refine awpL_nil ?_ | refine dr_nil ?_ | refine thenA_normal ?_ | refine thenA_exit ?_ | refine inBlockA_eq ?_) | (with_reducible refine awp_drawnQ mixed ?_ ?_; (decide +kernel)) | (refine awp_cond _ rfl (fun h => ?_) (fun h => ?_) <;> ((try (simp only [whn] at h)); first | (exfalso; omega; done) | skip)) | ((first | apply awpL_evl2 rfl | apply dr_evl2 rfl); (case h => ((try (intro (hp : (_ : Bool) = true); ((try simp only [Bool.and_eq_true, Bool.not_eq_true', Bool.not_eq_true] at hp); (try simp only [hp, wte]); (try simp only [whn] at hp)))); (first | (apply Evl_k 0 rfl; (first | exact Evl_mv _ rfl | exact Evl_as _ rfl)) | (apply Evl_k 3 rfl; (exact Evl_len _ _ _ _ _ _ HEl.out rfl rfl)) | (apply Evl_k 9 rfl; (exact Evl_slice_sq _ _ _ _ _ _ _ _ _ _ rfl rfl HEl.out (by first | exact .inl ⟨rfl, rfl⟩ | fail) (by first | exact .inr ⟨_, _, rfl, rfl⟩ | fail) (by omega) (by omega))) | (apply Evl_k 11 rfl; (exact Evl_call 15 Tryd.f15 _ _ rfl rfl Tryd.func15 (by decide) rfl (VwL.refl _ _) (hsm))) | (apply Evl_x; (case hs => (intro _ _ h; cases h)); (case hx => rfl); (case hrun => (intro w; simp [wtb, AV.val, go_sem]; (try go_bits); rfl)))))); (case hT => ((try simp (disch := omega) only [wtn, e1n, t1, t2, List.drop_zero, Nat.zero_mul, Nat.sub_zero, List.append_eq, List.foldl_cons, List.foldl_nil, List.map_cons, List.map_nil, Nat.reduceAdd, Nat.reduceMul, Nat.reduceSub, ↓reduceIte, Nat.reduceEqDiff]); rfl))) | fail))
      refine endA_ret _ _ (Res1 rfl (RV.tmp _) (Weak.mk' [] _ (List.Perm.refl _) (VwHs.refl _ _) (VwL.refl _ _))) ?_
      exact ⟨rfl, rfl⟩
end Go.Proofs.YtfaljkenmbbbaaaDoor
