import Derived.Test.YtkhhlmonhapmaaaGreatDoorW34
import Derived.Test.YtkhhlmonhapmaaaGreatDoorW35
import Derived.Test.YtkhhlmonhapmaaaGreatDoorW42
/- The program's parser: Parse. -/
namespace Go.Proofs.YtkhhlmonhapmaaaGreatDoor
open Go.RowKit
set_option linter.unusedSimpArgs false
set_option linter.unusedVariables false
theorem spn_pos {p : UInt8 → Bool} {c : UInt8} {r : List UInt8} (h : p c = true) : 1 ≤ spn p (c :: r) := by rw [spn_yes p c r h]; omega
theorem one_npos {l : List UInt8} {a : Int} {t : List UInt8} {m : Nat} (h : one l = .ok (a, t, m)) : a = 2 → 1 ≤ t.length := by
  intro h2
  subst h2
  cases l with
  | nil => cases h
  | cons c r =>
    unfold one at h
    simp only at h
    split at h
    · cases h
    · split at h
      · rename_i hd
        split at h
        · cases h
        · cases h
          have := spn_pos (r := r) hd
          rw [List.length_take]
          have := spn_le isDig (c :: r)
          omega
      · split at h
        · split at h <;> cases h
        · split at h
          · split at h <;> cases h
          · split at h <;> cases h
theorem tkok_of {s : List UInt8} {ts : List Tok} (h : lex s = .ok ts) : TkOk ts := by
  obtain ⟨hp, hn, hv, -, hle⟩ := (lex_facts s).2 ts h
  obtain ⟨hN, hS⟩ := lex_facts2 s ts h
  refine ⟨by omega, hv, ?_, hS⟩
  have h1 : ∀ t ∈ ts, t.kind = 2 → 1 ≤ t.text.length := by
    unfold lex at h
    split at h
    · cases h
    · exact lexGo_all (P := fun t => t.kind = 2 → 1 ≤ t.text.length) (fun p q h => by simp at h) (fun l a t m h p q => one_npos h) s.length (1, 1) 0 s ts (Nat.le_refl _) h
  exact fun t ht h2 => ⟨h1 t ht h2, (hN t ht h2).1, (hN t ht h2).2⟩
set_option maxRecDepth 100000 in
set_option maxHeartbeats 8000000 in
theorem gparse_err (s : List UInt8) (hl : s.length ≤ 1000000) (f : Flt) (hx : lex s = .error f) : Spec Tryz.prog 14 [] [.x (.string (bs s))] (fun r H' => r = jres (gParse s) ∧ H' = []) := by
  have hall := lall_s s hl
  have hf0 := (lex_facts s).1 f hx
  have hg : gParse s = .error f := by simp only [gParse, hx]
  rw [hg]
  rw [hx] at hall
  simp only [toksOf, fltOf, Flt.av] at hall
  clear hx hg
  refine Spec_ofD Tryz.func14 rfl ?_
  simp only [Tryz.ntmps14, List.length_cons, List.length_nil, List.replicate_succ, List.replicate_zero, List.cons_append, List.nil_append, Nat.reduceAdd, Nat.reduceSub]
  refine awpd_seq ?_
  (repeat' (first | with_reducible (first | refine awp_region ?_ | refine awpL_nil ?_ | refine thenA_normal ?_) | (refine awpL_cons rfl ?_; (((refine Stp_k 14 rfl ?_; ((refine Stp_alloc _ _ rfl HZero.out rfl (fun b => ?_))))); apply awpL_cong; (case hT => ((try simp only [wtn]); rfl)); (case hH => ((try simp only [wtn]); rfl)))) | fail))
  refine awpd_seq ?_
  (repeat' (first | with_reducible (first | refine awp_region ?_ | refine awpL_nil ?_ | refine thenA_normal ?_) | ((apply awpL_evl2 rfl); (case h => ((first | (apply Evl_k 0 rfl; (first | exact Evl_mv _ rfl | exact Evl_as _ rfl)) | (apply Evl_k 2 rfl; (exact Evl_extract _ _ _ _ rfl rfl rfl)) | (apply Evl_k 11 rfl; (exact Evl_call 31 Tryz.f31 _ _ rfl rfl Tryz.func31 (by decide) rfl (VwL.refl _ _) (hall)))))); (case hT => ((try simp only [wtn]); rfl))) | (refine awpL_cons rfl ?_; (((refine Stp_k 16 rfl ?_; ((refine Stp_store _ _ _ _ _ _ _ rfl rfl FBox.out HSize.out (by first | rfl | fail) (by first | exact Nat.le_of_ble_eq_true rfl | fail) ?_)))); apply awpL_cong; (case hT => ((try simp only [wtn]); rfl)); (case hH => ((try simp only [wtn, Nat.reduceAdd]); rfl)))) | fail))
  refine awpd_seq ?_
  (repeat' (first | with_reducible (first | refine awp_seq ?_ | refine awp_region ?_ | refine awpL_nil ?_ | refine thenA_normal ?_) | (refine awp_cond _ rfl (fun h => ?_) (fun h => ?_) <;> ((try (simp only [whn] at h)); first | (exfalso; omega; done) | skip)) | ((apply awpL_evl2 rfl); (case h => ((first | (apply Evl_k 5 rfl; (exact Evl_field_x _ _ _ _ _ _ rfl rfl HFld.out)) | (apply Evl_k 6 rfl; (exact Evl_load _ _ _ _ _ _ _ _ rfl rfl FBox.out HAgg.out (by first | exact Nat.le_of_ble_eq_true rfl | fail) (by first | exact Nat.le_of_ble_eq_true rfl | fail))) | (apply Evl_x; (case hs => (intro _ _ h; cases h)); (case hx => rfl); (case hrun => (intro w; simp [wtb, AV.val, go_sem]; skip; rfl)))))); (case hT => ((try simp only [wtn]); rfl))) | fail))
  refine awp_drawnA mixed ?_
  refine awpA_2 0 1 (by decide +kernel) rfl rfl rfl rfl ?_ ?_
  · (first | (apply Stp_evl; (case h => ((apply Evl_k 6 rfl; (exact Evl_load _ _ _ _ _ _ _ _ rfl rfl FBox.out HAgg.out (by first | exact Nat.le_of_ble_eq_true rfl | fail) (by first | exact Nat.le_of_ble_eq_true rfl | fail))))); (apply awpA_cong; (case hT => ((try simp only [wtn, ↓reduceIte]); rfl)); (case hH => rfl))) | fail)
    (refine awpA_1 1 (by decide +kernel) rfl rfl ?_; (first | (((refine Stp_k 16 rfl ?_; ((refine Stp_store _ _ _ _ _ _ _ rfl rfl FBox.out HSize.out (by first | rfl | fail) (by first | exact Nat.le_of_ble_eq_true rfl | fail) ?_)))); apply awpA_cong; (case hT => ((try simp only [wtn]); rfl)); (case hH => ((try simp only [wtn]); rfl))) | fail))
    (refine awpA_1 2 (by decide +kernel) rfl rfl ?_; (first | (((refine Stp_k 16 rfl ?_; ((refine Stp_store _ _ _ _ _ _ _ rfl rfl FBox.out HSize.out (by first | rfl | fail) (by first | exact Nat.le_of_ble_eq_true rfl | fail) ?_)))); apply awpA_cong; (case hT => ((try simp only [wtn]); rfl)); (case hH => ((try simp only [wtn, Nat.reduceAdd]); rfl))) | fail))
    refine awpA_done (by decide +kernel) ?_
    (repeat' (first | with_reducible (first | refine awp_ret ?_ | refine thenA_normal ?_ | refine thenA_ret ?_) | fail))
    refine endA_ret _ _ (Res2 rfl (RV.cell 1 rfl rfl HAgg.out (by simp) (by simp)) (RV.cell 0 rfl rfl HAgg.out (by simp) (by simp)) (Weak.mk' [_, _] [] (List.Perm.refl _) VwHs.nil (VwL.cons Vw.nil (VwL.refl _ _)))) ⟨?_, rfl⟩
    rfl
  · (first | (((refine Stp_k 16 rfl ?_; ((refine Stp_store _ _ _ _ _ _ _ rfl rfl FBox.out HSize.out (by first | rfl | fail) (by first | exact Nat.le_of_ble_eq_true rfl | fail) ?_)))); apply awpA_cong; (case hT => ((try simp only [wtn]); rfl)); (case hH => ((try simp only [wtn]); rfl))) | fail)
    (refine awpA_1 0 (by decide +kernel) rfl rfl ?_; (first | (apply Stp_evl; (case h => ((apply Evl_k 6 rfl; (exact Evl_load _ _ _ _ _ _ _ _ rfl rfl FBox.out HAgg.out (by first | exact Nat.le_of_ble_eq_true rfl | fail) (by first | exact Nat.le_of_ble_eq_true rfl | fail))))); (apply awpA_cong; (case hT => ((try simp only [wtn, ↓reduceIte]); rfl)); (case hH => rfl))) | fail))
    (refine awpA_1 2 (by decide +kernel) rfl rfl ?_; (first | (((refine Stp_k 16 rfl ?_; ((refine Stp_store _ _ _ _ _ _ _ rfl rfl FBox.out HSize.out (by first | rfl | fail) (by first | exact Nat.le_of_ble_eq_true rfl | fail) ?_)))); apply awpA_cong; (case hT => ((try simp only [wtn]); rfl)); (case hH => ((try simp only [wtn, Nat.reduceAdd]); rfl))) | fail))
    refine awpA_done (by decide +kernel) ?_
    (repeat' (first | with_reducible (first | refine awp_ret ?_ | refine thenA_normal ?_ | refine thenA_ret ?_) | fail))
    refine endA_ret _ _ (Res2 rfl (RV.cell 1 rfl rfl HAgg.out (by simp) (by simp)) (RV.cell 0 rfl rfl HAgg.out (by simp) (by simp)) (Weak.mk' [_, _] [] (List.Perm.refl _) VwHs.nil (VwL.cons Vw.nil (VwL.refl _ _)))) ⟨?_, rfl⟩
    rfl
theorem dec32 (n : Nat) : decide ((32 : Int) ≤ (n : Int)) = decide (32 ≤ n) := decide_eq_decide.2 (by omega)
set_option maxRecDepth 100000 in
set_option maxHeartbeats 8000000 in
theorem gparse_ok (s : List UInt8) (hl : s.length ≤ 1000000) (ts : List Tok) (hx : lex s = .ok ts) : Spec Tryz.prog 14 [] [.x (.string (bs s))] (fun r H' => r = jres (gParse s) ∧ H' = []) := by
  have hall := lall_s s hl
  obtain ⟨hp, hn, -⟩ := (lex_facts s).2 ts hx
  have hT := tkok_of hx
  have hg : gParse s = gJobs ts 0 [] := by simp only [gParse, hx]
  rw [hg]
  rw [hx] at hall
  simp only [toksOf, fltOf, Flt.av] at hall
  clear hx hg
  refine Spec_ofD Tryz.func14 rfl ?_
  simp only [Tryz.ntmps14, List.length_cons, List.length_nil, List.replicate_succ, List.replicate_zero, List.cons_append, List.nil_append, Nat.reduceAdd, Nat.reduceSub]
  refine awpd_seq ?_
  (repeat' (first | with_reducible (first | refine awp_region ?_ | refine awpL_nil ?_ | refine thenA_normal ?_) | (refine awpL_cons rfl ?_; (((refine Stp_k 14 rfl ?_; ((refine Stp_alloc _ _ rfl HZero.out rfl (fun b => ?_))))); apply awpL_cong; (case hT => ((try simp only [wtn]); rfl)); (case hH => ((try simp only [wtn]); rfl)))) | fail))
  refine awpd_seq ?_
  (repeat' (first | with_reducible (first | refine awp_region ?_ | refine awpL_nil ?_ | refine thenA_normal ?_) | ((apply awpL_evl2 rfl); (case h => ((first | (apply Evl_k 0 rfl; (first | exact Evl_mv _ rfl | exact Evl_as _ rfl)) | (apply Evl_k 2 rfl; (exact Evl_extract _ _ _ _ rfl rfl rfl)) | (apply Evl_k 11 rfl; (exact Evl_call 31 Tryz.f31 _ _ rfl rfl Tryz.func31 (by decide) rfl (VwL.refl _ _) (hall)))))); (case hT => ((try simp only [wtn]); rfl))) | (refine awpL_cons rfl ?_; (((refine Stp_k 16 rfl ?_; ((refine Stp_store _ _ _ _ _ _ _ rfl rfl FBox.out HSize.out (by first | rfl | fail) (by first | exact Nat.le_of_ble_eq_true rfl | fail) ?_)))); apply awpL_cong; (case hT => ((try simp only [wtn]); rfl)); (case hH => ((try simp only [wtn, Nat.reduceAdd]); rfl)))) | fail))
  refine awpd_seq ?_
  (repeat' (first | with_reducible (first | refine awp_seq ?_ | refine awp_region ?_ | refine awp_skip ?_ | refine awpL_nil ?_ | refine thenA_normal ?_) | (refine awp_cond _ rfl (fun h => ?_) (fun h => ?_) <;> first | (exact absurd h (by decide)) | ((try (simp only [] at h)); skip)) | ((apply awpL_evl2 rfl); (case h => ((first | (apply Evl_k 5 rfl; (exact Evl_field_x _ _ _ _ _ _ rfl rfl HFld.out)) | (apply Evl_k 6 rfl; (exact Evl_load _ _ _ _ _ _ _ _ rfl rfl FBox.out HAgg.out (by first | exact Nat.le_of_ble_eq_true rfl | fail) (by first | exact Nat.le_of_ble_eq_true rfl | fail))) | (apply Evl_x; (case hs => (intro _ _ h; cases h)); (case hx => rfl); (case hrun => (intro w; simp [wtb, AV.val, go_sem]; skip; rfl)))))); (case hT => ((try simp only [wtn]); rfl))) | fail))
  refine awpd_region (l := [_, _]) ?_
  rename_i b2
  obtain ⟨b3, rfl⟩ : ∃ x, x = b := ⟨b, rfl⟩
  refine awpdL_evl (T' := _) rfl (.x (.func (.func 32) #[] #[.pointer (some ⟨b2, 0, none⟩), .pointer (some ⟨b3, 0, none⟩)])) ?h rfl ?_
  case h => (apply Evl_x; (case hs => (intro _ _ h; cases h)); (case hx => rfl); (case hrun => (intro w; simp [wtb, AV.val, go_sem]; try rfl)))
  simp only [putT, List.set_cons_zero, List.set_cons_succ]
  refine awpdL_defer rfl rfl rfl rfl rfl ?_
  refine awpdL_nil ?_
  simp only
  refine awpd_of ?_
  refine awp_nilrow 51 15 ?_
  (repeat' (first | with_reducible (first | refine awp_seq ?_ | refine awp_region ?_ | refine awp_block ?_ | refine awpL_nil ?_ | refine thenA_normal ?_) | ((apply awpL_evl2 rfl); (case h => ((first | (apply Evl_k 0 rfl; (first | exact Evl_mv _ rfl | exact Evl_as _ rfl)) | (apply Evl_k 10 rfl; (exact Evl_build _ _ _ _ _ rfl HPl.out (by first | rfl | fail) rfl))))); (case hT => ((try simp only [wtn, ↓reduceIte]); rfl))) | (refine awpL_cons rfl ?_; (((refine Stp_k 15 rfl ?_; ((refine Stp_box _ _ rfl (by first | rfl | fail) (fun b => ?_))))); apply awpL_cong; (case hT => ((try simp only [wtn]); rfl)); (case hH => ((try simp only [wtn]); rfl)))) | fail))
  obtain ⟨pb, rfl⟩ : ∃ x, x = b := ⟨b, rfl⟩
  apply awp_loopS (S := Nat × List JF × Option Addr × Nat) (fun q => frm 33 [(2, .x (.pointer (some ⟨b2, 0, none⟩))), (3, .x (.pointer (some ⟨b3, 0, none⟩))), (5, .x (.pointer (some ⟨pb, 0, none⟩)))])
    (fun q => [.box pb (tc ts q.1), .box b2 [.x (.slice q.2.2.1 q.2.1.length q.2.2.2)], .row q.2.2.1 q.2.1.length q.2.2.2 51 15 (jfa q.2.1), .box b3 [.x (.int .i64 0), .x (.int .i64 0), .x (.int .i64 0)]])
    (fun q => q.1 < ts.length ∧ q.2.1.length ≤ q.1 ∧ gJobs ts q.1 q.2.1 = gJobs ts 0 []) (fun q => ts.length - q.1) (0, [], none, 0)
  case h0 => exact Weak.mk' [] [.box pb _, .box b2 _, .row none 0 0 _ _ _, .box b3 _] (by (repeat' (first | exact List.Perm.refl _ | refine List.Perm.cons _ ?_ | refine (List.perm_middle (l₁ := [_, _])).trans (List.Perm.cons _ ?_) | fail))) (VwHs.refl _ _) (by (repeat' (first | exact VwL.nil | (refine VwL.cons ?_ ?_) | exact Vw.refl _ | exact Vw.top _ | fail)))
  case hi => exact ⟨hp, Nat.zero_le _, rfl⟩
  rintro ⟨kk, js, ad, cap⟩ ⟨g1, g4, g6⟩
  simp only at g1 g4 g6
  have g6' := Lib.hid g6
  clear g6
  have hPk := peek_p ts kk g1 hT.len
  unfold Tok.av at hPk
  have hJ := job_p pb ts kk (decide ((32 : Int) ≤ (js.length : Int))) g1 hT
  simp only [tc] at hJ hPk ⊢
  simp only [frm, List.replicate_succ, List.replicate_zero, List.foldl_cons, List.foldl_nil, List.set_cons_zero, List.set_cons_succ]
  (repeat' (first | with_reducible (first | refine awp_seq ?_ | refine awp_region ?_ | refine awp_block ?_ | refine awp_ret ?_ | refine awp_skip ?_ | refine awp_exit ?_ | refine awpL_nil ?_ | refine thenA_normal ?_ | refine thenA_exit ?_ | refine inBlockA_eq ?_) | (refine awp_cond _ rfl (fun h => ?_) (fun h => ?_) <;> ((try (simp only [whn] at h)); skip)) | ((apply awpL_evl2 rfl); (case h => ((first | (apply Evl_k 0 rfl; (exact Evl_mv _ rfl)) | (apply Evl_k 6 rfl; (exact Evl_load _ _ _ _ _ _ _ _ rfl rfl FBox.out HAgg.out (by first | exact Nat.le_of_ble_eq_true rfl | fail) (by first | exact Nat.le_of_ble_eq_true rfl | fail))) | (apply Evl_k 10 rfl; (exact Evl_build _ _ _ _ _ rfl HPl.out (by first | rfl | fail) rfl)) | (apply Evl_k 11 rfl; (exact Evl_callL 33 Tryz.f33 _ _ rfl rfl Tryz.func33 (by decide) rfl (by (repeat' (first | exact VwL.nil | (refine VwL.cons ?_ ?_) | exact Vw.box (List.Mem.head _) (VwL.refl _ _) | fail)); done) (hPk))) | (apply Evl_k 12 rfl; (exact Evl_fvx _ _ _ _ _ _ _ rfl rfl HFv.out (by first | (simp; done) | fail) (by first | (simp; done) | fail))) | (apply Evl_x; (case hs => (intro _ _ h; cases h)); (case hx => rfl); (case hrun => (intro w; simp [wtb, AV.val, go_sem]; skip; rfl)))))); (case hT => ((try simp only [wtn, ↓reduceIte]); rfl))) | (refine awpL_cons rfl ?_; (((refine Stp_k 16 rfl ?_; ((refine Stp_store _ _ _ _ _ _ _ rfl rfl FBox.out HSize.out (by first | rfl | fail) (by first | exact Nat.le_of_ble_eq_true rfl | fail) ?_)))); apply awpL_cong; (case hT => ((try simp only [wtn]); rfl)); (case hH => ((try simp only [wtn, Nat.reduceAdd]); rfl)))) | fail))
  · have hk6 : (tkA ts kk).kind ≠ 6 := by rw [tkA_get g1]; exact h
    refine awp_panQ (X := panS [(2, .x (.pointer (some ⟨b2, 0, none⟩))), (3, .x (.pointer (some ⟨b3, 0, none⟩)))] fun c H => ∃ f, c = one1 (fv f) ∧ gJobs ts 0 [] = .error f ∧ ∃ R : List Hp, H.Perm ([.box b2 [.x (.slice ad js.length cap)], .box b3 [.x (.int .i64 0), .x (.int .i64 0), .x (.int .i64 0)]] ++ R)) ?_ ?_
    · refine awpP_drawn mixed [8] [.box b2 _] [.box pb _, .row ad _ _ _ _ _, .box b3 _] (by (repeat' (first | exact List.Perm.refl _ | refine (List.perm_middle (l₁ := [_])).trans (List.Perm.cons _ ?_) | fail))) ?_
      (first | refine awpP_loadI2 0 rfl rfl (by kernel_rfl) (fun _ _ _ hp => panQ_put rfl hp) _ _ _ _ _ _ _ _ rfl rfl FBox.out HAgg.out (by first | exact Nat.le_of_ble_eq_true rfl | fail) (by first | exact Nat.le_of_ble_eq_true rfl | fail) ?_ | fail); (apply awpP_cong; (case hT => ((try simp only [wtn]); rfl)); (case hH => rfl)); (first | (apply awpP_takeI2 1 rfl rfl (by kernel_rfl) (fun _ _ _ hp => panQ_put rfl hp); (case h => (exact WInd_mv _ rfl))) | fail); (apply awpP_cong; (case hT => ((try simp only [wtn]); rfl)); (case hH => rfl)); (first | refine awpP_loadI2 2 rfl rfl (by kernel_rfl) (fun _ _ _ hp => panQ_put rfl hp) _ _ _ _ _ _ _ _ rfl rfl FBox.out HAgg.out (by first | exact Nat.le_of_ble_eq_true rfl | fail) (by first | exact Nat.le_of_ble_eq_true rfl | fail) ?_ | fail); (apply awpP_cong; (case hT => ((try simp only [wtn]); rfl)); (case hH => rfl)); (first | (apply awpP_takeI2 3 rfl rfl (by kernel_rfl) (fun _ _ _ hp => panQ_put rfl hp); (case h => ((apply WInd_x; (case hs => (intro _ _ h; cases h)); (case hx => rfl); (case hrun => (intro w; simp [wtb, AV.val, go_sem]; skip; rfl)))))) | fail); (apply awpP_cong; (case hT => ((try simp only [wtn]); rfl)); (case hH => rfl)); (first | (apply awpP_takeI2 4 rfl rfl (by kernel_rfl) (fun _ _ _ hp => panQ_put rfl hp); (case h => ((apply WInd_x; (case hs => (intro _ _ h; cases h)); (case hx => rfl); (case hrun => (intro w; simp [wtb, AV.val, go_sem]; skip; rfl)))))) | fail); (apply awpP_cong; (case hT => ((try simp only [wtn]); rfl)); (case hH => rfl))
      (first | (refine awpP_1P 5 (by decide +kernel) rfl rfl ?_; refine StpP_call 34 Tryz.f34 [.box pb _] _ _ _ _ rfl rfl Tryz.func34 (by decide) rfl (List.Perm.refl _) (VwL.refl _ _) (hJ) ?_ ?_; (case' refine_1 => (rintro _ _ ⟨j1, k1, rfl, rfl, hx, hk2, hj2, hk3⟩; (apply awpP_cong; (case hT => ((try simp (disch := omega) only [wtn, JF.cells, List.append_eq, List.foldl_cons, List.foldl_nil, List.map_cons, List.map_nil, Nat.reduceAdd, Nat.reduceMul, Nat.reduceSub, ↓reduceIte, Nat.reduceEqDiff]); rfl)); (case hH => ((try simp (disch := omega) only [wtn, JF.cells, List.append_eq, List.foldl_cons, List.foldl_nil, List.map_cons, List.map_nil, Nat.reduceAdd, Nat.reduceMul, Nat.reduceSub, ↓reduceIte, Nat.reduceEqDiff]); rfl))))); (case' refine_2 => (rintro _ Hq ⟨f, hx, rfl⟩))) | fail)
      · refine ⟨⟨f, rfl, g6'.out.symm.trans (gJobs_bad hk6 (by rw [← dec32]; exact hx)), Hq ++ [.row ad js.length cap 51 15 (jfa js)], ?_⟩, ?_⟩
        · refine List.Perm.trans (List.Perm.of_eq ?_) (List.Perm.cons _ (List.perm_append_comm (l₁ := Hq ++ [.row ad js.length cap 51 15 (jfa js)]) (l₂ := [.box b3 [.x (.int .i64 0), .x (.int .i64 0), .x (.int .i64 0)]])))
          simp
        · intro p hp
          simp only [List.mem_cons, List.not_mem_nil, or_false] at hp
          rcases hp with rfl | rfl <;> rfl
      · (refine awpP_1 6 (by decide +kernel) rfl rfl ?_; (first | (((refine Stp_k 17 rfl ?_; ((refine Stp_buildSlice _ _ _ _ _ _ _ _ rfl HElem.out (by first | rfl | fail) rfl (by decide) rfl (fun b => ?_))))); apply awpP_cong; (case hT => ((try simp (disch := omega) only [wtn, JF.cells, List.append_eq, List.foldl_cons, List.foldl_nil, List.map_cons, List.map_nil, Nat.reduceAdd, Nat.reduceMul, Nat.reduceSub, ↓reduceIte, Nat.reduceEqDiff]); rfl)); (case hH => ((try simp (disch := omega) only [wtn, JF.cells, List.append_eq, List.foldl_cons, List.foldl_nil, List.map_cons, List.map_nil, Nat.reduceAdd, Nat.reduceMul, Nat.reduceSub, ↓reduceIte, Nat.reduceEqDiff]); rfl))) | fail))
        (refine awpP_1 7 (by decide +kernel) rfl rfl ?_; (first | (((refine Stp_k 13 rfl ?_; ((refine Stp_append _ _ _ _ _ _ _ _ _ _ _ _ _ _ rfl rfl FRow.out (Src.row _ rfl FRow.out) HElem.out (by first | rfl | fail) (fits _ _ (by omega) (by decide)) (fun ad cap => ?_))))); apply awpP_cong; (case hT => ((try simp (disch := omega) only [wtn, JF.cells, List.append_eq, List.foldl_cons, List.foldl_nil, List.map_cons, List.map_nil, Nat.reduceAdd, Nat.reduceMul, Nat.reduceSub, ↓reduceIte, Nat.reduceEqDiff]); rfl)); (case hH => ((try simp (disch := omega) only [wtn, JF.cells, List.append_eq, List.foldl_cons, List.foldl_nil, List.map_cons, List.map_nil, Nat.reduceAdd, Nat.reduceMul, Nat.reduceSub, ↓reduceIte, Nat.reduceEqDiff]); rfl))) | fail))
        refine awpP_rest (by decide +kernel) ?_
        refine awpA_cong rfl (by simp only [List.cons_append, List.nil_append]; rfl) ?_
        (refine awpA_1 8 (by decide +kernel) rfl rfl ?_; (first | (((refine Stp_k 16 rfl ?_; ((refine Stp_store _ _ _ _ _ _ _ rfl rfl FBox.out HSize.out (by first | rfl | fail) (by first | exact Nat.le_of_ble_eq_true rfl | fail) ?_)))); apply awpA_cong; (case hT => ((try simp only [wtn]); rfl)); (case hH => ((try simp only [wtn]); rfl))) | fail))
        refine awpA_done (by decide +kernel) ?_
        refine panQ_normal ?_
        (repeat' (first | with_reducible (first | refine thenA_normal ?_ | refine inBlockA_normal ?_) | fail))
        refine ⟨(k1, js ++ [j1], ad, cap), by simp only; omega, ⟨hk2, by simp only [List.length_append, List.length_cons, List.length_nil]; omega, ?_⟩, ?_⟩
        · rw [← g6'.out]
          exact (gJobs_step (x := (j1, k1)) hk6 (by rw [← dec32]; exact hx) ⟨hk3, g1⟩).symm
        · simp only [jfa_app, List.length_append, List.length_cons, List.length_nil]
          exact Weak.mk' [.row (some ⟨b, 0, none⟩) _ _ _ _ _] [.box pb _, .box b2 _, .row ad _ cap _ _ _, .box b3 _] (by (repeat' (first | exact List.Perm.refl _ | refine (List.perm_middle (l₁ := [_])).trans (List.Perm.cons _ ?_) | fail))) (VwHs.refl _ _) (by (repeat' (first | exact VwL.nil | (refine VwL.cons ?_ ?_) | exact Vw.refl _ | exact Vw.top _ | fail)))
    · rintro ch T H ⟨⟨f, rfl, hg, R, hpm⟩, hs⟩
      (repeat (with_reducible first | refine thenA_panic ?_ | refine inBlockA_panic ?_ | fail))
      have h2 := hs (2, _) (List.Mem.head _)
      have h3 := hs (3, _) (List.Mem.tail _ (List.Mem.head _))
      simp only at h2 h3
      rw [hg]
      refine ⟨.panicking (one1 (fv f)), .panicking [{ v := fv f, recovered := true }], 32, .func 32, #[.pointer (some ⟨b2, 0, none⟩), .pointer (some ⟨b3, 0, none⟩)], #[], [.pointer (some ⟨b2, 0, none⟩), .pointer (some ⟨b3, 0, none⟩)], [.box b2 _, .box b3 _], R, _, .inr (.inr ⟨_, rfl, rfl⟩), rfl, hpm, rfl, fun w => by simp [go_sem], catch_p b2 b3 _ _ _ _ f, fun r' H' hh => ?_⟩
      subst hh
      exact ⟨_, [], Res2 rfl (RV.cell 0 (by simp [ev, List.getD_eq_getElem?_getD, h2]) rfl HAgg.out (by simp) (by simp)) (RV.cell 1 (by simp [ev, List.getD_eq_getElem?_getD, h3]) rfl HAgg.out (by simp) (by simp)) (Weak.mk' (_ :: _ :: R) [] (by rw [List.append_nil]; exact List.Perm.refl _) VwHs.nil (VwL.cons Vw.nil (VwL.refl _ _))), rfl, rfl⟩
  · have hk6 : (tkA ts kk).kind = 6 := by rw [tkA_get g1]; exact h
    have hg : gJobs ts 0 [] = .ok js := g6'.out.symm.trans (gJobs_end hk6)
    rw [hg]
    refine ⟨.returning, .returning, 32, .func 32, #[.pointer (some ⟨b2, 0, none⟩), .pointer (some ⟨b3, 0, none⟩)], #[], [.pointer (some ⟨b2, 0, none⟩), .pointer (some ⟨b3, 0, none⟩)], [.box b2 _, .box b3 _], [.row ad _ _ _ _ _, .box pb _], _, .inl ⟨rfl, rfl⟩, rfl, by (repeat' (first | exact List.Perm.refl _ | refine (List.perm_middle (l₁ := [_])).trans (List.Perm.cons _ ?_) | refine (List.perm_middle (l₁ := [_, _])).trans (List.Perm.cons _ ?_) | fail)), rfl, fun w => by simp [go_sem], idle_p b2 b3 _, fun r' H' hh => ?_⟩
    subst hh
    exact ⟨_, [], Res2 rfl (RV.cell 0 rfl rfl HAgg.out (by simp) (by simp)) (RV.cell 1 rfl rfl HAgg.out (by simp) (by simp)) (Weak.mk' [.row ad _ _ _ _ _, .box pb _, .box b2 _, .box b3 _] [] (by (repeat' (first | exact List.Perm.refl _ | refine (List.perm_middle (l₁ := [_, _])).trans (List.Perm.cons _ ?_) | fail))) VwHs.nil (VwL.cons (Vw.row (List.Mem.head _) (VwL.refl _ _)) (VwL.refl _ _))), rfl, rfl⟩
theorem gparse_s (s : List UInt8) (hl : s.length ≤ 1000000) : Spec Tryz.prog 14 [] [.x (.string (bs s))] (fun r H' => r = jres (gParse s) ∧ H' = []) := by
  cases hx : lex s with
  | error f => rw [show gParse s = .error f by simp only [gParse, hx]]; exact (gparse_err s hl f hx).mono fun r H' ⟨h1, h2⟩ => ⟨by rw [h1]; simp only [gParse, hx], h2⟩
  | ok ts => exact gparse_ok s hl ts hx
end Go.Proofs.YtkhhlmonhapmaaaGreatDoor
