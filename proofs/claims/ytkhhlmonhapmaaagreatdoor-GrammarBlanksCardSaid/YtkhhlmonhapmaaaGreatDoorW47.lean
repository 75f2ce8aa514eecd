import Derived.Test.YtkhhlmonhapmaaaGreatDoorW44
import Derived.Test.YtkhhlmonhapmaaaGreatDoorW26
import Derived.Test.YtkhhlmonhapmaaaGreatDoorW45
/- GrammarBlanks: the walk. -/
set_option linter.unusedSimpArgs false
set_option linter.unusedVariables false
namespace Go.Proofs.YtkhhlmonhapmaaaGreatDoor
open Go.RowKit
def exx : List UInt8 := [106, 111, 98, 32, 97, 32, 123, 32, 114, 117, 110, 32, 34, 120, 34, 32, 110, 101, 101, 100, 115, 32, 98, 32, 98, 117, 114, 115, 116, 32, 50, 32, 57, 32, 114, 101, 115, 116, 97, 114, 116, 32, 97, 108, 119, 97, 121, 115, 32, 125]
def exy : List UInt8 := [106, 111, 98, 32, 97, 32, 123, 32, 114, 101, 115, 116, 97, 114, 116, 32, 97, 108, 119, 97, 121, 115, 32, 98, 117, 114, 115, 116, 32, 50, 32, 57, 32, 110, 101, 101, 100, 115, 32, 98, 32, 114, 117, 110, 32, 34, 120, 34, 32, 125]
def exJ : JF := { name := [97], run := [120], env := [], needs := [[98]], hasr := false, ready := [], restart := 3, base := 100, cap := 10000, stable := 10000, burst := 2, window := 9, ladder := [(15, 5000)], line := 1, col := 5 }
theorem gParse_exx : gParse exx = .ok [exJ] := by rw [← gParseE_eq]; rfl
theorem gParse_exy : gParse exy = .ok [exJ] := by rw [← gParseE_eq]; rfl
set_option maxRecDepth 100000 in
set_option maxHeartbeats 8000000 in
theorem blanks_s (l : List Int) (hd : DK l) : Spec Tryz.prog 7 [] [.sq l.length (ia l)] (fun r H' => r = .x (.bool true) ∧ H' = []) := by
  refine Spec_of Tryz.func7 rfl ?_
  simp only [Tryz.ntmps7, List.length_cons, List.length_nil, List.replicate_succ, List.replicate_zero, List.cons_append, List.nil_append, Nat.reduceAdd, Nat.reduceSub]
  (repeat' (first | with_reducible (first | refine awp_seq ?_ | refine awp_region ?_ | refine awp_skip ?_ | refine awpL_nil ?_ | refine thenA_normal ?_) | (refine awp_cond _ rfl (fun h => ?_) (fun h => ?_) <;> first | (exact absurd h (by decide)) | ((try (simp only [] at h)); skip)) | ((apply awpL_evl2 rfl); (case h => ((first | (apply Evl_k 0 rfl; (first | exact Evl_mv _ rfl | exact Evl_as _ rfl)) | (apply Evl_k 11 rfl; (exact Evl_call 10 Tryz.f10 _ _ rfl rfl Tryz.func10 (by decide) rfl (VwL.refl _ _) (sane06_s))) | (apply Evl_x; (case hs => (intro _ _ h; cases h)); (case hx => rfl); (case hrun => (intro w; simp [wtb, AV.val, go_sem]; skip; rfl)))))); (case hT => ((try simp only [wtn]); rfl))) | (refine awpL_cons rfl ?_; (((refine Stp_k 11 rfl ?_; (first | (refine Stp_call 11 Tryz.f11 ([]) _ _ _ rfl rfl Tryz.func11 (by decide) rfl (List.Perm.refl _) (VwL.refl _ _) (new_w l []) ?_; rintro _ _ ⟨bd, rfl, rfl⟩) | (refine Stp_call 13 Tryz.f13 [_] _ _ _ rfl rfl Tryz.func13 (by decide) rfl (List.Perm.refl _) (VwL.refl _ _) (procfile_x _ l 0 hd (Nat.zero_le _)) ?_; rintro _ _ ⟨s, k1, rfl, rfl, hk1, hs, hpf⟩)))); apply awpL_cong; (case hT => ((try simp only [wtn]); rfl)); (case hH => ((try simp only [wtn]); rfl)))) | fail))
  obtain ⟨a, b, ha, hb, hab, ha0⟩ := blanks_plain6 s (by omega) hpf
  have q1 := gparse_s s (by omega)
  have q2 := gparse_s (bPre ++ s ++ bSuf) (by simp [bPre, bSuf]; omega)
  have q3 := gparse_s exx (by decide)
  have q4 := gparse_s exy (by decide)
  have j1 := jbs_ok s
  have j3 := jbs_ok exx
  rw [ha] at q1 j1
  rw [hb] at q2
  rw [gParse_exx] at q3 j3
  rw [gParse_exy] at q4
  simp only [jres] at q1 q2 q3 q4
  simp only [jsOf] at j1 j3
  have s1 := sameJs_s a b j1
  have s3 := sameJs_s [exJ] [exJ] j3
  rw [hab] at s1
  rw [show sameJs [exJ] [exJ] = true from by decide] at s3
  clear ha hb hab hpf j1 j3
  generalize [exJ] = xs at *
  (repeat' (first | with_reducible (first | refine awp_seq ?_ | refine awp_region ?_ | refine awp_ret ?_ | refine awpL_nil ?_ | refine thenA_normal ?_) | ((first | apply awpL_evl2 rfl | apply awpL_g2 _ _ rfl rfl rfl); (case h => ((try (intro (hp : (_ : Bool) = true); ((try simp only [] at hp); skip; skip))); (first | (apply Evl_k 0 rfl; (first | exact Evl_mv _ rfl | exact Evl_as _ rfl)) | (apply Evl_k 1 rfl; (exact Evl_pickt _ _ _ rfl rfl)) | (apply Evl_k 2 rfl; (exact Evl_extract _ _ _ _ rfl rfl rfl)) | (apply Evl_k 3 rfl; (exact Evl_len _ _ _ _ _ _ HEl.out rfl rfl)) | (apply Evl_k 6 rfl; (exact Evl_load _ _ _ _ _ _ _ _ rfl rfl FBox.out HAgg.out (by first | exact Nat.le_of_ble_eq_true rfl | fail) (by first | exact Nat.le_of_ble_eq_true rfl | fail))) | (apply Evl_k 10 rfl; (exact Evl_build _ _ _ _ _ rfl HPl.out (by first | rfl | fail) rfl)) | (apply Evl_k 11 rfl; (first | exact Evl_call 14 Tryz.f14 _ _ rfl rfl Tryz.func14 (by decide) rfl (VwL.refl _ _) (q1) | exact Evl_call 14 Tryz.f14 _ _ rfl rfl Tryz.func14 (by decide) rfl (VwL.refl _ _) (q2) | exact Evl_call 14 Tryz.f14 _ _ rfl rfl Tryz.func14 (by decide) rfl (VwL.refl _ _) (q3) | exact Evl_call 14 Tryz.f14 _ _ rfl rfl Tryz.func14 (by decide) rfl (VwL.refl _ _) (q4) | exact Evl_call 24 Tryz.f24 _ _ rfl rfl Tryz.func24 (by decide) rfl (VwL.refl _ _) (s1) | exact Evl_call 24 Tryz.f24 _ _ rfl rfl Tryz.func24 (by decide) rfl (VwL.refl _ _) (s3))) | (apply Evl_k 12 rfl; (first | exact Evl_concat _ _ bPre _ rfl rfl rfl (by simp [bPre]; omega) | exact Evl_concat _ _ _ bSuf rfl rfl rfl (by simp [bPre, bSuf]; omega))) | (apply Evl_x; (case hs => (intro _ _ h; cases h)); (case hx => rfl); (case hrun => (intro w; simp [wtb, AV.val, go_sem]; skip; rfl)))))); (case hT => ((try simp only [wtn, ↓reduceIte]); rfl))) | (refine awpL_cons rfl ?_; ((first | (refine Stp_k 14 rfl ?_; ((refine Stp_alloc _ _ rfl HZero.out rfl (fun b => ?_)))) | (refine Stp_k 16 rfl ?_; ((refine Stp_store _ _ _ _ _ _ _ rfl rfl FBox.out HSize.out (by first | rfl | fail) (by first | exact Nat.le_of_ble_eq_true rfl | fail) ?_)))); apply awpL_cong; (case hT => ((try simp only [wtn]); rfl)); (case hH => ((try simp only [wtn, Nat.reduceAdd]); rfl)))) | fail))
  refine endA_ret _ _ (Res1 rfl (RV.tmp _) (Weak.mk' [_, _, _, _, _] [] (List.Perm.refl _) (VwHs.refl _ _) (by first | exact VwL.refl _ _ | fail))) ?_
  exact ⟨by show AV.x (.bool (decide (0 < a.length))) = _; rw [decide_eq_true ha0], rfl⟩
end Go.Proofs.YtkhhlmonhapmaaaGreatDoor
