import Derived.Test.YtkhhlmonhapmaaaGreatDoorW44
import Derived.Test.YtkhhlmonhapmaaaGreatDoorW27
import Derived.Test.YtkhhlmonhapmaaaGreatDoorW45
/- GrammarJoins: the walk. -/
set_option linter.unusedSimpArgs false
set_option linter.unusedVariables false
namespace Go.Proofs.YtkhhlmonhapmaaaGreatDoor
open Go.RowKit
set_option maxRecDepth 100000 in
set_option maxHeartbeats 8000000 in
theorem joins_s (l m : List Int) (hd : DK l) (hdm : DK m) : Spec Tryz.prog 8 [] [.sq l.length (ia l), .sq m.length (ia m)] (fun r H' => r = .x (.bool true) ∧ H' = []) := by
  refine Spec_of Tryz.func8 rfl ?_
  simp only [Tryz.ntmps8, List.length_cons, List.length_nil, List.replicate_succ, List.replicate_zero, List.cons_append, List.nil_append, Nat.reduceAdd, Nat.reduceSub]
  (repeat' (first | with_reducible (first | refine awp_seq ?_ | refine awp_region ?_ | refine awp_skip ?_ | refine awpL_nil ?_ | refine thenA_normal ?_) | (refine awp_cond _ rfl (fun h => ?_) (fun h => ?_) <;> first | (exact absurd h (by decide)) | ((try (simp only [] at h)); skip)) | ((apply awpL_evl2 rfl); (case h => ((first | (apply Evl_k 0 rfl; (first | exact Evl_mv _ rfl | exact Evl_as _ rfl)) | (apply Evl_k 11 rfl; (exact Evl_call 10 Tryz.f10 _ _ rfl rfl Tryz.func10 (by decide) rfl (VwL.refl _ _) (sane06_s))) | (apply Evl_x; (case hs => (intro _ _ h; cases h)); (case hx => rfl); (case hrun => (intro w; simp [wtb, AV.val, go_sem]; skip; rfl)))))); (case hT => ((try simp only [wtn]); rfl))) | (refine awpL_cons rfl ?_; (((refine Stp_k 11 rfl ?_; (first | (refine Stp_call 11 Tryz.f11 ([]) _ _ _ rfl rfl Tryz.func11 (by decide) rfl (List.Perm.refl _) (VwL.refl _ _) (new_w l []) ?_; rintro _ _ ⟨bd, rfl, rfl⟩) | (refine Stp_call 11 Tryz.f11 ([]) _ _ _ rfl rfl Tryz.func11 (by decide) rfl (List.Perm.refl _) (VwL.refl _ _) (new_w m []) ?_; rintro _ _ ⟨bm, rfl, rfl⟩) | (refine Stp_call 13 Tryz.f13 [_] _ _ _ rfl rfl Tryz.func13 (by decide) rfl (List.Perm.refl _) (VwL.refl _ _) (procfile_x _ l 0 hd (Nat.zero_le _)) ?_; rintro _ _ ⟨s0, k1, rfl, rfl, hk1, hs0, hp0⟩) | (refine Stp_call 13 Tryz.f13 [_] _ _ _ rfl rfl Tryz.func13 (by decide) rfl (List.Perm.refl _) (VwL.refl _ _) (procfile_x _ m 0 hdm (Nat.zero_le _)) ?_; rintro _ _ ⟨t, k3, rfl, rfl, hk3, ht, hpt⟩) | (refine Stp_call 12 Tryz.f12 [_] _ _ _ rfl rfl Tryz.func12 (by decide) rfl (List.Perm.refl _) (VwL.refl _ _) (spoil_x _ l _ s0 hd (by assumption) (by omega)) ?_; rintro _ _ ⟨s, k2, rfl, rfl, hk2, hs, hbs⟩)))); apply awpL_cong; (case hT => ((try simp only [wtn]); rfl)); (case hH => ((try simp only [wtn]); rfl)))) | fail))
  have hb0 : brc s0 ≤ 4 := by obtain ⟨js, ⟨-, h4⟩, -, -, hb, -⟩ := hp0; omega
  have hJ := joins_plain6 s t (by omega) (by omega) (by omega) hpt
  clear hp0 hpt hbs hb0
  have q1 := gparse_t s (by omega)
  have q2 := gparse_t t (by omega)
  have q3 := gparse_t (s ++ [10] ++ t) (by simp; omega)
  have j1 := jbs_ok s
  have j2 := jbs_ok t
  have j3 := jbs_ok (s ++ [10] ++ t)
  rcases hJ with ⟨f, g, h1, h2, h3, h4⟩ | ⟨a, b, c, h1, h2, h3, h4⟩
  · rw [h1] at q1
    rw [h3] at q3
    simp only [jsOf, jfl] at q1 q3
    generalize gParse t = y at *
    clear h1 h3 j1 j2 j3
    (repeat' (first | with_reducible (first | refine awp_seq ?_ | refine awp_region ?_ | refine awp_ret ?_ | refine awpL_nil ?_ | refine thenA_normal ?_ | refine thenA_ret ?_) | (refine awp_cond _ rfl (fun h => ?_) (fun h => ?_) <;> ((try (simp only [whn] at h)); first | (exfalso; omega; done) | skip)) | ((first | apply awpL_evl2 rfl | apply awpL_g2 _ _ rfl rfl rfl); (case h => ((try (intro (hp : (_ : Bool) = true); ((try simp only [hp]); (try simp only [whn] at hp)))); (first | (apply Evl_k 0 rfl; (first | exact Evl_mv _ rfl | exact Evl_as _ rfl)) | (apply Evl_k 1 rfl; (exact Evl_and _ _ _ _ _ rfl rfl rfl rfl)) | (apply Evl_k 2 rfl; (exact Evl_extract _ _ _ _ rfl rfl rfl)) | (apply Evl_k 3 rfl; (exact Evl_len _ _ _ _ _ _ HEl.out rfl rfl)) | (apply Evl_k 5 rfl; (exact Evl_field_x _ _ _ _ _ _ rfl rfl HFld.out)) | (apply Evl_k 6 rfl; (exact Evl_load _ _ _ _ _ _ _ _ rfl rfl FBox.out HAgg.out (by first | exact Nat.le_of_ble_eq_true rfl | fail) (by first | exact Nat.le_of_ble_eq_true rfl | fail))) | (apply Evl_k 11 rfl; (first | exact Evl_call 14 Tryz.f14 _ _ rfl rfl Tryz.func14 (by decide) rfl (VwL.refl _ _) (q1) | exact Evl_call 14 Tryz.f14 _ _ rfl rfl Tryz.func14 (by decide) rfl (VwL.refl _ _) (q2) | exact Evl_call 14 Tryz.f14 _ _ rfl rfl Tryz.func14 (by decide) rfl (VwL.refl _ _) (q3))) | (apply Evl_k 12 rfl; (first | exact Evl_concat _ _ _ [10] rfl rfl rfl (by simp; omega) | exact Evl_concat _ _ _ _ rfl rfl rfl (by simp; omega))) | (apply Evl_x; (case hs => (intro _ _ h; cases h)); (case hx => rfl); (case hrun => (intro w; simp [wtb, AV.val, go_sem]; skip; rfl)))))); (case hT => ((try simp only [wtn]); rfl))) | (refine awpL_cons rfl ?_; ((first | (refine Stp_k 14 rfl ?_; ((refine Stp_alloc _ _ rfl HZero.out rfl (fun b => ?_)))) | (refine Stp_k 16 rfl ?_; ((refine Stp_store _ _ _ _ _ _ _ rfl rfl FBox.out HSize.out (by first | rfl | fail) (by first | exact Nat.le_of_ble_eq_true rfl | fail) ?_)))); apply awpL_cong; (case hT => ((try simp only [wtn]); rfl)); (case hH => ((try simp only [wtn, Nat.reduceAdd]); rfl)))) | fail))
    refine endA_ret _ _ (Res1 rfl (RV.tmp _) (Weak.mk' [_, _, _, _, _] [] (List.Perm.refl _) (VwHs.refl _ _) (by first | exact VwL.refl _ _ | fail))) ?_
    exact ⟨by show AV.x (.bool (g.code != 0)) = _; rw [bne_iff_ne.2 h4], rfl⟩
  · rw [h1] at q1 j1
    rw [h2] at q2 j2
    rw [h3] at q3 j3
    simp only [jsOf, jfl] at q1 q2 q3 j1 j2 j3
    have s1 := sameJs_s c (a ++ b) j3
    rw [h4, List.length_append, jfa_app] at s1
    have e1 := j1.1
    have e2 := j2.1
    clear h1 h2 h3 h4 j1 j2 j3
    (repeat' (first | with_reducible (first | refine awp_seq ?_ | refine awp_region ?_ | refine awp_skip ?_ | refine awpL_nil ?_ | refine thenA_normal ?_) | (refine awp_cond _ rfl (fun h => ?_) (fun h => ?_) <;> first | (exact absurd h (by decide)) | ((try (simp only [] at h)); skip)) | ((first | apply awpL_evl2 rfl | apply awpL_g2 _ _ rfl rfl rfl); (case h => ((try (intro (hp : (_ : Bool) = true); ((try simp only [] at hp); skip; skip))); (first | (apply Evl_k 0 rfl; (first | exact Evl_mv _ rfl | exact Evl_as _ rfl)) | (apply Evl_k 1 rfl; (exact Evl_pickt _ _ _ rfl rfl)) | (apply Evl_k 2 rfl; (exact Evl_extract _ _ _ _ rfl rfl rfl)) | (apply Evl_k 5 rfl; (exact Evl_field_x _ _ _ _ _ _ rfl rfl HFld.out)) | (apply Evl_k 6 rfl; (exact Evl_load _ _ _ _ _ _ _ _ rfl rfl FBox.out HAgg.out (by first | exact Nat.le_of_ble_eq_true rfl | fail) (by first | exact Nat.le_of_ble_eq_true rfl | fail))) | (apply Evl_k 11 rfl; (first | exact Evl_call 14 Tryz.f14 _ _ rfl rfl Tryz.func14 (by decide) rfl (VwL.refl _ _) (q1) | exact Evl_call 14 Tryz.f14 _ _ rfl rfl Tryz.func14 (by decide) rfl (VwL.refl _ _) (q2) | exact Evl_call 14 Tryz.f14 _ _ rfl rfl Tryz.func14 (by decide) rfl (VwL.refl _ _) (q3))) | (apply Evl_k 12 rfl; (first | exact Evl_concat _ _ _ [10] rfl rfl rfl (by simp; omega) | exact Evl_concat _ _ _ _ rfl rfl rfl (by simp; omega))) | (apply Evl_x; (case hs => (intro _ _ h; cases h)); (case hx => rfl); (case hrun => (intro w; simp [wtb, AV.val, go_sem]; skip; rfl)))))); (case hT => ((try simp only [wtn]); rfl))) | (refine awpL_cons rfl ?_; ((first | (refine Stp_k 14 rfl ?_; ((refine Stp_alloc _ _ rfl HZero.out rfl (fun b => ?_)))) | (refine Stp_k 16 rfl ?_; ((refine Stp_store _ _ _ _ _ _ _ rfl rfl FBox.out HSize.out (by first | rfl | fail) (by first | exact Nat.le_of_ble_eq_true rfl | fail) ?_)))); apply awpL_cong; (case hT => ((try simp only [wtn]); rfl)); (case hH => ((try simp only [wtn, Nat.reduceAdd]); rfl)))) | fail))
    refine awpL_gs true rfl rfl rfl (fun _ => ?_) (fun hp => by cases hp)
    simp only [List.map_cons, List.map_nil, str]
    refine Stp_buildSlice _ _ _ _ _ _ _ _ rfl HElem.out rfl rfl (by decide) rfl (fun bn => ?_)
    (try simp only [wtn])
    (repeat' (first | ((apply awpL_g2 _ _ rfl rfl rfl); (case h => ((try (intro (hp : (_ : Bool) = true); ((try simp only [] at hp); skip; skip))); ((apply Evl_k 0 rfl; (exact Evl_mv _ rfl))))); (case hT => ((try simp only [wtn]); rfl))) | fail))
    refine awpL_gs true rfl rfl rfl (fun _ => ?_) (fun hp => by cases hp)
    simp only [List.map_cons, List.map_nil, str]
    (refine Stp_append _ _ _ _ _ _ _ _ _ _ _ _ _ _ rfl rfl FRow.out (Src.sq rfl) HElem.out (by first | (rw [jfa_len]; done) | fail) (fits _ _ (by omega) (by decide)) (fun ad cap => ?_))
    (try simp only [wtn])
    (repeat' (first | ((apply awpL_g2 _ _ rfl rfl rfl); (case h => ((try (intro (hp : (_ : Bool) = true); ((try simp only [] at hp); skip; skip))); ((apply Evl_k 0 rfl; (exact Evl_mv _ rfl))))); (case hT => ((try simp only [wtn]); rfl))) | fail))
    refine awpL_gs true rfl rfl rfl (fun _ => ?_) (fun hp => by cases hp)
    simp only [List.map_cons, List.map_nil, str]
    (refine Stp_append _ _ _ _ _ _ _ _ _ _ _ _ _ _ rfl rfl FRow.out (Src.sq rfl) HElem.out (by first | (rw [jfa_len]; done) | fail) (fits _ _ (by omega) (by decide)) (fun ad cap => ?_))
    (try simp only [wtn])
    (repeat' (first | with_reducible (first | refine awp_ret ?_ | refine awpL_nil ?_ | refine thenA_normal ?_) | ((first | apply awpL_evl2 rfl | apply awpL_g2 _ _ rfl rfl rfl); (case h => ((try (intro (hp : (_ : Bool) = true); ((try simp only [] at hp); skip; skip))); (first | (apply Evl_k 0 rfl; (exact Evl_as _ rfl)) | (apply Evl_k 1 rfl; (exact Evl_pickt _ _ _ rfl rfl)) | (apply Evl_k 11 rfl; (exact Evl_callL 24 Tryz.f24 _ _ rfl rfl Tryz.func24 (by decide) rfl (by (repeat' (first | exact VwL.nil | (refine VwL.cons ?_ ?_) | exact Vw.refl _ | exact Vw.row (List.Mem.head _) (VwL.refl _ _) | fail)); done) (s1)))))); (case hT => ((try simp only [wtn]); rfl))) | fail))
    refine endA_ret _ _ (Res1 rfl (RV.tmp _) (Weak.mk' [_, _, _, _, _, _] [] (List.Perm.refl _) (VwHs.refl _ _) (by first | exact VwL.refl _ _ | fail))) ?_
    exact ⟨rfl, rfl⟩
end Go.Proofs.YtkhhlmonhapmaaaGreatDoor
