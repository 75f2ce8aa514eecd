import Derived.Test.YtfaljkenmbbbaaaDoorW15
import Derived.Test.YtfaljkenmbbbaaaDoorW7
import Derived.Test.YtfaljkenmbbbaaaDoorW10
import Derived.Test.YtfaljkenmbbbaaaDoorW8
import Derived.Test.YtfaljkenmbbbaaaDoorW6
/- The reference's parser: it ends, and what it gives can be walked through. -/
namespace Go.Proofs.YtfaljkenmbbbaaaDoor
open Go.RowKit
set_option linter.unusedSimpArgs false
set_option linter.unusedVariables false
theorem jfa_app (l m : List JF) : jfa (l ++ m) = jfa l ++ jfa m := by simp [jfa]
set_option maxRecDepth 100000 in
set_option maxHeartbeats 8000000 in
theorem parse_err (s : List UInt8) (hl : s.length ≤ 1000000) (f : Flt) (hx : lex s = .error f) : Spec Tryd.prog 32 [] [.x (.string (bs s))] (fun r H' => ∃ (js : List JF) (f l c : Int), r = .tup [.sq js.length (jfa js), .x (.agg #[.int .i64 f, .int .i64 l, .int .i64 c])] ∧ H' = [] ∧ JBs js ∧ f ≠ 0) := by
  have hall := all_s s hl
  have hf0 := (lex_facts s).1 f hx
  rw [hx] at hall
  simp only [toksOf, fltOf, Flt.av] at hall
  clear hx
  refine Spec_of Tryd.func32 rfl ?_
  simp only [Tryd.ntmps32, List.length_cons, List.length_nil, List.replicate_succ, List.replicate_zero, List.cons_append, List.nil_append, Nat.reduceAdd, Nat.reduceSub]
  (repeat' (first | with_reducible (first | refine awp_seq ?_ | refine awp_region ?_ | refine awpL_nil ?_ | refine thenA_normal ?_) | (refine awp_cond _ rfl (fun h => ?_) (fun h => ?_) <;> ((try (simp only [whn] at h)); first | (exfalso; omega; done) | skip)) | ((apply awpL_evl2 rfl); (case h => ((try (intro (hp : (_ : Bool) = true); ((try simp only [Bool.and_eq_true, Bool.not_eq_true', Bool.not_eq_true] at hp); (try simp only [hp, wte]); (try simp only [whn] at hp)))); (first | (apply Evl_k 0 rfl; (first | exact Evl_mv _ rfl | exact Evl_as _ rfl)) | (apply Evl_k 2 rfl; (exact Evl_extract _ _ _ _ rfl rfl rfl)) | (apply Evl_k 5 rfl; (exact Evl_field_x _ _ _ _ _ _ rfl rfl HFld.out)) | (apply Evl_k 6 rfl; (exact Evl_load _ _ _ _ _ _ _ _ rfl rfl FBox.out HAgg.out (by first | exact Nat.le_of_ble_eq_true rfl | fail) (by first | exact Nat.le_of_ble_eq_true rfl | fail))) | (apply Evl_k 11 rfl; (exact Evl_call 14 Tryd.f14 _ _ rfl rfl Tryd.func14 (by decide) rfl (VwL.refl _ _) (hall))) | (apply Evl_x; (case hs => (intro _ _ h; cases h)); (case hx => rfl); (case hrun => (intro w; simp [wtb, AV.val, go_sem]; (try go_bits); rfl)))))); (case hT => ((try simp only [wtn, List.append_eq, List.foldl_cons, List.foldl_nil, List.map_cons, List.map_nil, Nat.reduceAdd, Nat.reduceMul, Nat.reduceSub, ↓reduceIte, Nat.reduceEqDiff]); rfl))) | (refine awpL_cons rfl ?_; ((first | (refine Stp_k 14 rfl ?_; ((refine Stp_alloc _ _ rfl HZero.out rfl (fun b => ?_)))) | (refine Stp_k 16 rfl ?_; ((refine Stp_store _ _ _ _ _ _ _ rfl rfl FBox.out HSize.out (by first | rfl | fail) (by first | exact Nat.le_of_ble_eq_true rfl | fail) ?_)))); apply awpL_cong; (case hT => ((try simp only [wtn, List.append_eq, List.foldl_cons, List.foldl_nil, List.map_cons, List.map_nil, Nat.reduceAdd, Nat.reduceMul, Nat.reduceSub, ↓reduceIte, Nat.reduceEqDiff]); rfl)); (case hH => ((try simp only [wtn, List.append_eq, List.foldl_cons, List.foldl_nil, List.map_cons, List.map_nil, Nat.reduceAdd, Nat.reduceMul, Nat.reduceSub, ↓reduceIte, Nat.reduceEqDiff]); rfl)))) | fail))
  refine awpP_all mixed [2] ?_
  (first | refine awpP_load 0 rfl rfl (by kernel_rfl) (by intro c T H hp; simp [thenA, inBlockA, jumpA, endA] at hp) _ _ _ _ _ _ _ _ rfl rfl FBox.out HAgg.out (by first | exact Nat.le_of_ble_eq_true rfl | fail) (by first | exact Nat.le_of_ble_eq_true rfl | fail) ?_ | fail); (apply awpP_cong; (case hT => ((try simp only [wtn, List.append_eq, List.foldl_cons, List.foldl_nil, List.map_cons, List.map_nil, Nat.reduceAdd, Nat.reduceMul, Nat.reduceSub, ↓reduceIte, Nat.reduceEqDiff]); rfl)); (case hH => rfl)); (first | (apply awpP_take 1 rfl rfl (by kernel_rfl) (by intro c T H hp; simp [thenA, inBlockA, jumpA, endA] at hp); (case h => (exact WInd_as _ rfl))) | fail); (apply awpP_cong; (case hT => ((try simp only [wtn, List.append_eq, List.foldl_cons, List.foldl_nil, List.map_cons, List.map_nil, Nat.reduceAdd, Nat.reduceMul, Nat.reduceSub, ↓reduceIte, Nat.reduceEqDiff]); rfl)); (case hH => rfl))
  refine awpP_rest (by decide +kernel) ?_
  refine awpA_cong rfl (by simp only [List.cons_append, List.nil_append]; rfl) ?_
  (refine awpA_1 2 (by decide +kernel) rfl rfl ?_; (first | (((refine Stp_k 16 rfl ?_; ((refine Stp_store _ _ _ _ _ _ _ rfl rfl FBox.out HSize.out (by first | rfl | fail) (by first | exact Nat.le_of_ble_eq_true rfl | fail) ?_)))); apply awpA_cong; (case hT => ((try simp only [wtn, List.append_eq, List.foldl_cons, List.foldl_nil, List.map_cons, List.map_nil, Nat.reduceAdd, Nat.reduceMul, Nat.reduceSub, ↓reduceIte, Nat.reduceEqDiff]); rfl)); (case hH => ((try simp only [wtn, List.append_eq, List.foldl_cons, List.foldl_nil, List.map_cons, List.map_nil, Nat.reduceAdd, Nat.reduceMul, Nat.reduceSub, ↓reduceIte, Nat.reduceEqDiff]); rfl))) | fail))
  refine awpA_done (by decide +kernel) ?_
  (repeat' (first | with_reducible (first | refine awp_ret ?_ | refine thenA_normal ?_ | refine thenA_ret ?_) | fail))
  refine endA_ret _ _ (Res2 rfl (RV.tmp _) (RV.cell 1 rfl rfl HAgg.out (by simp) (by simp)) (Weak.mk' [_, _] [] (List.Perm.refl _) VwHs.nil (VwL.cons Vw.nil (VwL.refl _ _)))) ?_
  exact ⟨[], _, _, _, rfl, rfl, by simp [JBs], hf0⟩
set_option maxRecDepth 100000 in
set_option maxHeartbeats 8000000 in
theorem parse_ok (s : List UInt8) (hl : s.length ≤ 1000000) (ts : List Tok) (hx : lex s = .ok ts) : Spec Tryd.prog 32 [] [.x (.string (bs s))] (fun r H' => ∃ (js : List JF) (f l c : Int), r = .tup [.sq js.length (jfa js), .x (.agg #[.int .i64 f, .int .i64 l, .int .i64 c])] ∧ H' = [] ∧ JBs js) := by
  have hall := all_s s hl
  obtain ⟨hp, hn, hv, ht, hle⟩ := (lex_facts s).2 ts hx
  rw [hx] at hall
  simp only [toksOf, fltOf, Flt.av] at hall
  have ht' := Lib.hid ht
  clear hx ht
  refine Spec_of Tryd.func32 rfl ?_
  simp only [Tryd.ntmps32, List.length_cons, List.length_nil, List.replicate_succ, List.replicate_zero, List.cons_append, List.nil_append, Nat.reduceAdd, Nat.reduceSub]
  (repeat' (first | with_reducible (first | refine awp_seq ?_ | refine awp_region ?_ | refine awp_block ?_ | refine awp_skip ?_ | refine awpL_nil ?_ | refine thenA_normal ?_) | (refine awp_cond _ rfl (fun h => ?_) (fun h => ?_) <;> first | (exact absurd h (by decide)) | ((try (simp only [whn] at h)); skip)) | ((apply awpL_evl2 rfl); (case h => ((try (intro (hp : (_ : Bool) = true); ((try simp only [Bool.and_eq_true, Bool.not_eq_true', Bool.not_eq_true] at hp); (try simp only [hp, wte]); (try simp only [whn] at hp)))); (first | (apply Evl_k 0 rfl; (first | exact Evl_mv _ rfl | exact Evl_as _ rfl)) | (apply Evl_k 2 rfl; (exact Evl_extract _ _ _ _ rfl rfl rfl)) | (apply Evl_k 5 rfl; (exact Evl_field_x _ _ _ _ _ _ rfl rfl HFld.out)) | (apply Evl_k 6 rfl; (exact Evl_load _ _ _ _ _ _ _ _ rfl rfl FBox.out HAgg.out (by first | exact Nat.le_of_ble_eq_true rfl | fail) (by first | exact Nat.le_of_ble_eq_true rfl | fail))) | (apply Evl_k 10 rfl; (exact Evl_build _ _ _ _ _ rfl HPl.out (by first | rfl | fail) rfl)) | (apply Evl_k 11 rfl; (exact Evl_call 14 Tryd.f14 _ _ rfl rfl Tryd.func14 (by decide) rfl (VwL.refl _ _) (hall))) | (apply Evl_x; (case hs => (intro _ _ h; cases h)); (case hx => rfl); (case hrun => (intro w; simp [wtb, AV.val, go_sem]; (try go_bits); rfl)))))); (case hT => ((try simp only [wtn, List.append_eq, List.foldl_cons, List.foldl_nil, List.map_cons, List.map_nil, Nat.reduceAdd, Nat.reduceMul, Nat.reduceSub, ↓reduceIte, Nat.reduceEqDiff]); rfl))) | (refine awpL_cons rfl ?_; ((first | (refine Stp_k 14 rfl ?_; ((refine Stp_alloc _ _ rfl HZero.out rfl (fun b => ?_)))) | (refine Stp_k 15 rfl ?_; ((refine Stp_box _ _ rfl (by first | rfl | fail) (fun b => ?_)))) | (refine Stp_k 16 rfl ?_; ((refine Stp_store _ _ _ _ _ _ _ rfl rfl FBox.out HSize.out (by first | rfl | fail) (by first | exact Nat.le_of_ble_eq_true rfl | fail) ?_)))); apply awpL_cong; (case hT => ((try simp only [wtn, List.append_eq, List.foldl_cons, List.foldl_nil, List.map_cons, List.map_nil, Nat.reduceAdd, Nat.reduceMul, Nat.reduceSub, ↓reduceIte, Nat.reduceEqDiff]); rfl)); (case hH => ((try simp only [wtn, List.append_eq, List.foldl_cons, List.foldl_nil, List.map_cons, List.map_nil, Nat.reduceAdd, Nat.reduceMul, Nat.reduceSub, ↓reduceIte, Nat.reduceEqDiff]); rfl)))) | fail))
  rename_i fb xb
  obtain ⟨pb, rfl⟩ : ∃ x, x = b := ⟨b, rfl⟩
  refine awp_nilrow 86 15 ?_
  apply awp_loopS (S := Nat × Int × Int × Int × AV × List JF × Option Addr × Nat) (fun s => frm 41 [(3, .x (.pointer (some ⟨fb, 0, none⟩))), (6, .x (.pointer (some ⟨pb, 0, none⟩))), (7, .x (.slice s.2.2.2.2.2.2.1 s.2.2.2.2.2.1.length s.2.2.2.2.2.2.2))])
    (fun s => [.box pb (pc ts s.1 s.2.1 s.2.2.1 s.2.2.2.1 s.2.2.2.2.1), .row s.2.2.2.2.2.2.1 s.2.2.2.2.2.1.length s.2.2.2.2.2.2.2 86 15 (jfa s.2.2.2.2.2.1), .box fb [.x (.int .i64 0), .x (.int .i64 0), .x (.int .i64 0)]])
    (fun s => s.1 < ts.length ∧ s.2.1 = 0 ∧ s.2.2.2.2.1.one = true ∧ s.2.2.2.2.2.1.length ≤ s.1 ∧ ∀ j ∈ s.2.2.2.2.2.1, JB j ts.length) (fun s => ts.length - s.1) (0, 0, 0, 0, .x (.slice none 0 0), [], none, 0)
  case h0 => exact Weak.mk' [_] [.box pb _, .row none 0 0 _ _ _, .box fb _] (List.Perm.trans (l₂ := [.box pb _, .row none 0 0 _ _ _, .box fb _] ++ [_]) (by (repeat' (first | exact List.Perm.refl _ | refine List.Perm.cons _ ?_ | refine (List.perm_middle (l₁ := [_])).trans (List.Perm.cons _ ?_) | fail))) List.perm_append_comm) (VwHs.refl _ _) (by (repeat' (first | exact VwL.nil | (refine VwL.cons ?_ ?_) | exact Vw.refl _ | exact Vw.top _ | fail)))
  case hi => exact ⟨hp, rfl, rfl, Nat.zero_le _, by simp⟩
  rintro ⟨kk, ee, ll, cc, sv, js, ad, cap⟩ ⟨g1, g2, g3, g4, g5⟩
  simp only at g1 g2 g3 g4 g5
  have g5' := Lib.hid g5
  clear g5
  simp only [frm, List.replicate_succ, List.replicate_zero, List.foldl_cons, List.foldl_nil, List.set_cons_zero, List.set_cons_succ]
  (repeat' (first | with_reducible (first | refine awp_seq ?_ | refine awp_region ?_ | refine awp_block ?_ | refine awp_ret ?_ | refine awp_skip ?_ | refine awp_exit ?_ | refine awpL_nil ?_ | refine thenA_normal ?_ | refine thenA_exit ?_ | refine inBlockA_eq ?_ | refine inBlockA_normal ?_) | (refine awp_cond _ rfl (fun h => ?_) (fun h => ?_) <;> ((try (simp only [whn] at h)); skip)) | ((apply awpL_evl2 rfl); (case h => ((try (intro (hp : (_ : Bool) = true); ((try simp only [Bool.and_eq_true, Bool.not_eq_true', Bool.not_eq_true] at hp); (try simp only [hp, wte]); (try simp only [whn] at hp)))); (first | (apply Evl_k 0 rfl; (first | exact Evl_mv _ rfl | exact Evl_as _ rfl)) | (apply Evl_k 6 rfl; (exact Evl_load _ _ _ _ _ _ _ _ rfl rfl FBox.out HAgg.out (by first | exact Nat.le_of_ble_eq_true rfl | fail) (by first | exact Nat.le_of_ble_eq_true rfl | fail))) | (apply Evl_k 10 rfl; (exact Evl_build _ _ _ _ _ rfl HPl.out (by first | rfl | fail) rfl)) | (apply Evl_k 11 rfl; (first | exact Evl_callL 50 Tryd.f50 _ _ rfl rfl Tryd.func50 (by decide) rfl (by (repeat' (first | exact VwL.nil | (refine VwL.cons ?_ ?_) | exact Vw.box (List.Mem.head _) (VwL.refl _ _) | fail)); done) (now_s ts kk _ _ _ _ g1 (by omega)) | exact Evl_callL 52 Tryd.f52 _ _ rfl rfl Tryd.func52 (by decide) rfl (by (repeat' (first | exact VwL.nil | (refine VwL.cons ?_ ?_) | exact Vw.box (List.Mem.tail _ (List.Mem.head _)) (VwL.refl _ _) | fail)); done) (failed_s ts _ _ _ _ _))) | (apply Evl_k 12 rfl; (exact Evl_fvx _ _ _ _ _ _ _ rfl rfl HFv.out (by first | (simp; done) | fail) (by first | (simp; done) | fail))) | (apply Evl_x; (case hs => (intro _ _ h; cases h)); (case hx => rfl); (case hrun => (intro w; simp [wtb, AV.val, go_sem]; (try go_bits); rfl)))))); (case hT => ((try simp (disch := omega) only [wtn, pc, Tok.av, JF.cells, List.append_eq, List.foldl_cons, List.foldl_nil, List.map_cons, List.map_nil, Nat.reduceAdd, Nat.reduceMul, Nat.reduceSub, ↓reduceIte, Nat.reduceEqDiff]); rfl))) | (refine awpL_cons rfl ?_; ((first | (refine Stp_k 11 rfl ?_; ((refine Stp_call 51 Tryd.f51 [_] _ _ _ rfl rfl Tryd.func51 (by decide) rfl (List.Perm.refl _) (VwL.refl _ _) (rjob_s _ ts kk ee _ _ sv g3 _ g1 (by omega) hv ht'.out) ?_; rintro _ _ ⟨j7, k7, e7, l7, c7, sv7, rfl, rfl, hsv7, ⟨w1, w2, w3⟩, w4, w5⟩))) | (refine Stp_k 13 rfl ?_; ((refine Stp_append _ _ _ _ _ _ _ _ _ _ _ _ _ _ rfl rfl FRow.out (Src.row _ rfl FRow.out) HElem.out (by first | rfl | fail) (fits _ _ (by omega) (by decide)) (fun ad cap => ?_)))) | (refine Stp_k 14 rfl ?_; ((refine Stp_alloc _ _ rfl HZero.out rfl (fun b => ?_)))) | (refine Stp_k 16 rfl ?_; ((refine Stp_store _ _ _ _ _ _ _ rfl rfl FBox.out HSize.out (by first | rfl | fail) (by first | exact Nat.le_of_ble_eq_true rfl | fail) ?_))) | (refine Stp_k 17 rfl ?_; ((refine Stp_buildSlice _ _ _ _ _ _ _ _ rfl HElem.out (by first | rfl | fail) rfl (by decide) rfl (fun b => ?_))))); apply awpL_cong; (case hT => ((try simp (disch := omega) only [wtn, pc, Tok.av, JF.cells, List.append_eq, List.foldl_cons, List.foldl_nil, List.map_cons, List.map_nil, Nat.reduceAdd, Nat.reduceMul, Nat.reduceSub, ↓reduceIte, Nat.reduceEqDiff]); rfl)); (case hH => ((try simp (disch := omega) only [wtn, pc, Tok.av, JF.cells, List.append_eq, List.foldl_cons, List.foldl_nil, List.map_cons, List.map_nil, Nat.reduceAdd, Nat.reduceMul, Nat.reduceSub, ↓reduceIte, Nat.reduceEqDiff]); rfl)))) | fail))
  · refine awpP_all mixed [5] ?_
    (first | (apply awpP_take 0 rfl rfl (by kernel_rfl) (by intro c T H hp; simp [thenA, inBlockA, jumpA, endA] at hp); (case h => (exact WInd_mv _ rfl))) | fail); (apply awpP_cong; (case hT => ((try simp only [wtn, List.append_eq, List.foldl_cons, List.foldl_nil, List.map_cons, List.map_nil, Nat.reduceAdd, Nat.reduceMul, Nat.reduceSub, ↓reduceIte, Nat.reduceEqDiff]); rfl)); (case hH => rfl)); (first | (apply awpP_take 1 rfl rfl (by kernel_rfl) (by intro c T H hp; simp [thenA, inBlockA, jumpA, endA] at hp); (case h => (exact WInd_nil _ _ _ rfl rfl))) | fail); (apply awpP_cong; (case hT => ((try simp only [wtn, List.append_eq, List.foldl_cons, List.foldl_nil, List.map_cons, List.map_nil, Nat.reduceAdd, Nat.reduceMul, Nat.reduceSub, ↓reduceIte, Nat.reduceEqDiff]); rfl)); (case hH => rfl)); (first | (apply awpP_take 2 rfl rfl (by kernel_rfl) (by intro c T H hp; simp [thenA, inBlockA, jumpA, endA] at hp); (case h => (exact WInd_field_x _ _ _ _ _ _ rfl rfl HFld.out))) | fail); (apply awpP_cong; (case hT => ((try simp only [wtn, List.append_eq, List.foldl_cons, List.foldl_nil, List.map_cons, List.map_nil, Nat.reduceAdd, Nat.reduceMul, Nat.reduceSub, ↓reduceIte, Nat.reduceEqDiff]); rfl)); (case hH => rfl)); (first | refine awpP_load 3 rfl rfl (by kernel_rfl) (by intro c T H hp; simp [thenA, inBlockA, jumpA, endA] at hp) _ _ _ _ _ _ _ _ rfl rfl FBox.out HAgg.out (by first | exact Nat.le_of_ble_eq_true rfl | fail) (by first | exact Nat.le_of_ble_eq_true rfl | fail) ?_ | fail); (apply awpP_cong; (case hT => ((try simp only [wtn, List.append_eq, List.foldl_cons, List.foldl_nil, List.map_cons, List.map_nil, Nat.reduceAdd, Nat.reduceMul, Nat.reduceSub, ↓reduceIte, Nat.reduceEqDiff]); rfl)); (case hH => rfl)); (first | (apply awpP_take 4 rfl rfl (by kernel_rfl) (by intro c T H hp; simp [thenA, inBlockA, jumpA, endA] at hp); (case h => (exact WInd_as _ rfl))) | fail); (apply awpP_cong; (case hT => ((try simp only [wtn, List.append_eq, List.foldl_cons, List.foldl_nil, List.map_cons, List.map_nil, Nat.reduceAdd, Nat.reduceMul, Nat.reduceSub, ↓reduceIte, Nat.reduceEqDiff]); rfl)); (case hH => rfl))
    refine awpP_rest (by decide +kernel) ?_
    refine awpA_cong rfl (by simp only [List.cons_append, List.nil_append]; rfl) ?_
    (refine awpA_1 5 (by decide +kernel) rfl rfl ?_; (first | (((refine Stp_k 16 rfl ?_; ((refine Stp_store _ _ _ _ _ _ _ rfl rfl FBox.out HSize.out (by first | rfl | fail) (by first | exact Nat.le_of_ble_eq_true rfl | fail) ?_)))); apply awpA_cong; (case hT => ((try simp only [wtn, List.append_eq, List.foldl_cons, List.foldl_nil, List.map_cons, List.map_nil, Nat.reduceAdd, Nat.reduceMul, Nat.reduceSub, ↓reduceIte, Nat.reduceEqDiff]); rfl)); (case hH => ((try simp only [wtn, List.append_eq, List.foldl_cons, List.foldl_nil, List.map_cons, List.map_nil, Nat.reduceAdd, Nat.reduceMul, Nat.reduceSub, ↓reduceIte, Nat.reduceEqDiff]); rfl))) | fail))
    refine awpA_done (by decide +kernel) ?_
    (repeat' (first | with_reducible (first | refine awp_ret ?_ | refine thenA_normal ?_ | refine thenA_ret ?_ | refine inBlockA_ret ?_) | fail))
    refine endA_ret _ _ (Res2 rfl (RV.tmp _) (RV.cell 3 rfl rfl HAgg.out (by simp) (by simp)) (Weak.mk' [_, _, _, _] [] (List.Perm.refl _) VwHs.nil (VwL.cons Vw.nil (VwL.refl _ _)))) ?_
    exact ⟨[], _, _, _, rfl, rfl, by simp [JBs]⟩
  · have h0 : e7 = 0 := by assumption
    have h1 := w5 h0
    refine ⟨(k7, e7, l7, c7, sv7, js ++ [j7], ad, cap), by simp only; omega, ⟨w2, h0, hsv7, by simp only [List.length_append, List.length_cons, List.length_nil]; omega, fun j hj => ?_⟩, ?_⟩
    · rcases List.mem_append.1 hj with hj | hj
      · exact g5'.out j hj
      · rw [List.mem_singleton] at hj; subst hj; exact w4.mono (by omega)
    · simp only [jfa_app, List.length_append, List.length_cons, List.length_nil]
      exact Weak.mk' [_, _] [.box pb _, .row ad _ cap _ _ _, .box fb _] (List.Perm.trans (l₂ := [.box pb _, .row ad _ cap _ _ _, .box fb _] ++ [_, _]) (by (repeat' (first | exact List.Perm.refl _ | refine (List.perm_middle (l₁ := [_, _])).trans (List.Perm.cons _ ?_) | fail))) List.perm_append_comm) (VwHs.refl _ _) (by (repeat' (first | exact VwL.nil | (refine VwL.cons ?_ ?_) | exact Vw.refl _ | exact Vw.top _ | fail)))
  · refine endA_ret _ _ (Res2 rfl (RV.tmp _) (RV.cell 2 rfl rfl HAgg.out (by simp) (by simp)) (Weak.mk' [_, _, _] [] (List.Perm.refl _) VwHs.nil (VwL.cons (Vw.row (List.Mem.tail _ (List.Mem.head _)) (VwL.refl _ _)) (VwL.refl _ _)))) ?_
    exact ⟨js, _, _, _, rfl, rfl, ⟨by omega, fun j hj => by obtain ⟨q1, q2, q3⟩ := g5'.out j hj; exact ⟨by omega, by omega, by omega⟩⟩⟩
/-- A text without a fault. -/
def LexOk (s : List UInt8) : Prop := ∃ ts, lex s = .ok ts
theorem lexok_nil : LexOk [] := ⟨_, by unfold lex; rw [if_neg (by decide)]; exact lexGo_end _ _ [] (by rw [skp_nil]; rfl)⟩
theorem parse_s (s : List UInt8) (hl : s.length ≤ 1000000) : Spec Tryd.prog 32 [] [.x (.string (bs s))] (fun r H' => ∃ (js : List JF) (f l c : Int), r = .tup [.sq js.length (jfa js), .x (.agg #[.int .i64 f, .int .i64 l, .int .i64 c])] ∧ H' = [] ∧ JBs js ∧ (f = 0 → LexOk s)) := by
  cases hx : lex s with
  | error f => exact (parse_err s hl f hx).mono fun r H' ⟨js, f, l, c, h1, h2, h3, h4⟩ => ⟨js, f, l, c, h1, h2, h3, fun h => absurd h h4⟩
  | ok ts => exact (parse_ok s hl ts hx).mono fun r H' ⟨js, f, l, c, h1, h2, h3⟩ => ⟨js, f, l, c, h1, h2, h3, fun _ => ⟨ts, hx⟩⟩
set_option maxRecDepth 100000 in
set_option maxHeartbeats 8000000 in
theorem print_s (l : List JF) (hl : l.length ≤ 8) (hj : ∀ j ∈ l, JSmall j) : Spec Tryd.prog 20 [] [.sq l.length (jfa l)] (fun r H' => ∃ (s : List UInt8) (e : Int), r = .tup [.x (.string (bs s)), .x (.int .i64 e)] ∧ H' = [] ∧ s.length ≤ 900 * l.length ∧ LexOk s) := by
  refine Spec_of Tryd.func20 rfl ?_
  simp only [Tryd.ntmps20, List.length_cons, List.length_nil, List.replicate_succ, List.replicate_zero, List.cons_append, List.nil_append, Nat.reduceAdd, Nat.reduceSub]
  (repeat' (first | with_reducible (first | refine awp_seq ?_ | refine awp_region ?_ | refine awp_ret ?_ | refine awp_skip ?_ | refine awpL_nil ?_ | refine thenA_normal ?_ | refine thenA_ret ?_) | (refine awp_cond _ rfl (fun h => ?_) (fun h => ?_) <;> ((try (simp only [whn] at h)); first | (exfalso; omega; done) | skip)) | ((first | apply awpL_evl2 rfl | apply awpL_g2 _ _ rfl rfl rfl); (case h => ((try (intro (hp : (_ : Bool) = true); ((try simp only [Bool.and_eq_true, Bool.not_eq_true', Bool.not_eq_true] at hp); (try simp only [hp, wte]); (try simp only [whn] at hp)))); (first | (apply Evl_k 0 rfl; (first | exact Evl_mv _ rfl | exact Evl_as _ rfl)) | (apply Evl_k 1 rfl; (exact Evl_or _ _ _ _ _ rfl rfl rfl rfl)) | (apply Evl_k 2 rfl; (exact Evl_extract _ _ _ _ rfl rfl rfl)) | (apply Evl_k 5 rfl; (exact Evl_field_x _ _ _ _ _ _ rfl rfl HFld.out)) | (apply Evl_k 6 rfl; (exact Evl_load _ _ _ _ _ _ _ _ rfl rfl FBox.out HAgg.out (by first | exact Nat.le_of_ble_eq_true rfl | fail) (by first | exact Nat.le_of_ble_eq_true rfl | fail))) | (apply Evl_k 11 rfl; (exact Evl_call 33 Tryd.f33 _ _ rfl rfl Tryd.func33 (by decide) rfl (VwL.refl _ _) (sameJs13_s js l hjs))) | (apply Evl_x; (case hs => (intro _ _ h; cases h)); (case hx => rfl); (case hrun => (intro w; simp [wtb, AV.val, go_sem]; (try go_bits); rfl)))))); (case hT => ((try simp only [wtn, List.append_eq, List.foldl_cons, List.foldl_nil, List.map_cons, List.map_nil, Nat.reduceAdd, Nat.reduceMul, Nat.reduceSub, ↓reduceIte, Nat.reduceEqDiff]); rfl))) | (refine awpL_cons rfl ?_; ((first | (refine Stp_k 11 rfl ?_; (first | (refine Stp_call 31 Tryd.f31 ([]) _ _ _ rfl rfl Tryd.func31 (by decide) rfl (List.Perm.refl _) (VwL.refl _ _) (text_s l hl hj) ?_; rintro _ _ ⟨s, rfl, rfl, hs⟩) | (refine Stp_call 32 Tryd.f32 ([]) _ _ _ rfl rfl Tryd.func32 (by decide) rfl (List.Perm.refl _) (VwL.refl _ _) (parse_s s (by omega)) ?_; rintro _ _ ⟨js, f, fl, fc, rfl, rfl, hjs, hlx⟩))) | (refine Stp_k 14 rfl ?_; ((refine Stp_alloc _ _ rfl HZero.out rfl (fun b => ?_)))) | (refine Stp_k 16 rfl ?_; ((refine Stp_store _ _ _ _ _ _ _ rfl rfl FBox.out HSize.out (by first | rfl | fail) (by first | exact Nat.le_of_ble_eq_true rfl | fail) ?_)))); apply awpL_cong; (case hT => ((try simp only [wtn, List.append_eq, List.foldl_cons, List.foldl_nil, List.map_cons, List.map_nil, Nat.reduceAdd, Nat.reduceMul, Nat.reduceSub, ↓reduceIte, Nat.reduceEqDiff]); rfl)); (case hH => ((try simp only [wtn, List.append_eq, List.foldl_cons, List.foldl_nil, List.map_cons, List.map_nil, Nat.reduceAdd, Nat.reduceMul, Nat.reduceSub, ↓reduceIte, Nat.reduceEqDiff]); rfl)))) | fail))
  · refine endA_ret _ _ (Res2 rfl (RV.tmp _) (RV.tmp _) (Weak.mk' [_] [] (List.Perm.refl _) VwHs.nil (VwL.refl _ _))) ?_
    exact ⟨[], _, rfl, rfl, Nat.zero_le _, lexok_nil⟩
  · refine endA_ret _ _ (Res2 rfl (RV.tmp _) (RV.tmp _) (Weak.mk' [_] [] (List.Perm.refl _) VwHs.nil (VwL.refl _ _))) ?_
    exact ⟨s, _, rfl, rfl, hs, hlx (by first | exact h.1 | fail)⟩
end Go.Proofs.YtfaljkenmbbbaaaDoor
/- A walk over symbolic memory: a string's bytes appended to a row of bytes. No program in sight. -/
namespace Go.Proofs.YtfaljkenmbbbaaaDoor
open Go.RowKit Go.Lib
set_option linter.unusedSimpArgs false
set_option linter.unusedVariables false
section
variable {P : Program} {o : Oper} {H : List Hp} {T : List AV} {K : List AV → List Hp → Prop}
theorem strCells_u8s (l : List UInt8) : strCells (bs l) = u8s l := by simp [strCells, u8s, bs]
theorem append_where_str (w : World) (t u ty e : TypeId) (hE : ElemAt P t e (.int .u8 0) 1 1) (hu : P.underlying u = some .string) (ad : Option Addr) (n cap0 : Nat) (xs : List Value) (hown : w.ownsRow 0 e 1 (.slice ad n cap0) n xs) (s : ByteArray) (hf : n + s.size ≤ 1000000) :
    ∃ ad' cap' w', (Builtin.append_ #[t, u] ty #[.slice ad n cap0, .string s]).run P w = .ok (.slice ad' (n + s.size) cap') w' ∧ w'.ownsRow 0 e 1 (.slice ad' (n + s.size) cap') (n + s.size) (xs ++ strCells s) ∧ w.grownBy w' (Value.slice ad n cap0).ownBlock ∧ ∀ x, ad' = some x → ad = some x ∨ x.block = w.heap.size := by
  obtain ⟨i, hi, hz, hsize, hby⟩ := info_parts hE.info
  obtain ⟨v', w', hrun, g1, g2, g3⟩ := run_append_own_string (P := P) (w := w) 0 t u ty e i hE.under hu hi hz hsize hby (.slice ad n cap0) n xs hown s (by unfold maxLen; omega) (by omega) (Nat.zero_le _)
  obtain ⟨ad', cap', rfl, _⟩ := (Sl.own g1).shape
  refine ⟨ad', cap', w', hrun, g1, g2, fun x hx => ?_⟩
  subst hx
  have hxl : xs.length = n := by simpa using hown.1
  rcases hown.2 with ⟨e1, rfl⟩ | ⟨g, cap1, cur, e1, hbg, hg, hnc, hcm, hcs, htake⟩
  · cases e1
    by_cases hm : s.size = 0
    · have := g3.2 ⟨rfl, hm⟩; cases this
    · have hr := run_append_nil_string (P := P) w t u ty e i (.int .u8 0) hE.under hu hi hz s (by omega) (by omega) (by rw [hby]; omega)
      simp only [Nat.zero_add] at hrun
      rw [hr] at hrun
      simp only [Result.ok.injEq, Value.slice.injEq, Option.some.injEq] at hrun
      exact .inr (by rw [← hrun.1.1])
  · simp only [Value.slice.injEq] at e1
    obtain ⟨rfl, -, rfl⟩ := e1
    by_cases hroom : n + s.size ≤ cap0
    · have hcs' : cur.size = cap0 := by simpa using hcs
      have hr := run_append_room_string (P := P) w t u ty e i hE.under hu hi hsize g n cap0 cur hg s hroom (by omega)
      rw [hr] at hrun
      simp only [Result.ok.injEq, Value.slice.injEq, Option.some.injEq] at hrun
      exact .inl (by rw [← hrun.1.1])
    · have hr := run_append_grow_string (P := P) w t u ty e i (.int .u8 0) hE.under hu hi hz ⟨g, 0, none⟩ n cap0 xs (by rw [hsize]; simpa using hxl) (hown.cells (g := g) rfl) s (by omega) (by omega) (by rw [hby]; exact growslice_fits (by omega) (by omega))
      rw [hr] at hrun
      simp only [Result.ok.injEq, Value.slice.injEq, Option.some.injEq] at hrun
      exact .inr (by rw [← hrun.1.1])
/-- 'append(b, s...)', b a row of bytes of the call's own, s a string. -/
theorem Stp_append_str (p : Nat) (s x : Operand) (t u e : TypeId) (ad : Option Addr) (n cap : Nat) (cells : List AV) (l : List UInt8) (ho : o.op = .call { callee := .builtin .append, args := #[s, x], argTypes := #[t, u] }) (hs : ev T s = .x (.slice ad n cap)) (hp : H[p]? = some (.row ad n cap e 1 cells))
    (hx : ev T x = .x (.string (bs l))) (hE : ElemAt P t e (.int .u8 0) 1 1) (hu : P.underlying u = some .string) (hf : n + l.length ≤ 1000000)
    (hK : ∀ ad' cap', K (putT T o.dst (.x (.slice ad' (n + l.length) cap'))) (H.set p (.row ad' (n + l.length) cap' e 1 (cells ++ u8a l)))) : Stp P o T H K := by
  intro V O w0 a w Kc Q r hKc
  obtain ⟨vals, hd, hown, h1⟩ := r.hp p _ hp
  obtain ⟨ad', cap', w', hrun, g1, g2, g3⟩ := append_where_str (P := P) w t u o.type e hE hu ad n cap vals hown (bs l) (by rw [bs_size]; exact hf)
  rw [bs_size] at hrun g1
  rw [strCells_u8s] at g1
  unfold Oper.wp execOp
  simp only [ho, resolve, invoke, builtin, Sem.run_bind, Sem.run_pure, Result.andThen_ok, List.map_toArray, List.map_cons, List.map_nil, r.evx hs, r.evx hx, hrun, Oper.upon]
  have hob : (Value.slice ad n cap).ownBlock = ad.map (·.block) := by cases ad <;> rfl
  have hw : ∀ k, k < w.heap.size → (Hp.row ad n cap e 1 cells).blk ≠ some k → w'.heap[k]? = w.heap[k]? := fun k hk hn => g2.block k hk fun e => hn (by rw [hob] at e; exact e.symm)
  have hlt : ∀ k, (Hp.row ad' (n + l.length) cap' e 1 (cells ++ u8a l)).blk = some k → k < w'.heap.size ∧ ((Hp.row ad n cap e 1 cells).blk = some k ∨ w.heap.size ≤ k) := by
    intro k hk
    refine ⟨(g1.lt k (by simp only [Hp.blk] at hk; cases ad' with | none => simp at hk | some y => simpa [Value.ownBlock] using hk)).2, ?_⟩
    cases ad' with
    | none => simp [Hp.blk] at hk
    | some y =>
      simp [Hp.blk] at hk
      subst hk
      rcases g3 y rfl with rfl | e
      · exact .inl rfl
      · exact .inr (by omega)
  refine hKc _ _ _ _ (hK ad' cap') (Rel.put (Rel.turnAt (y := .row ad' (n + l.length) cap' e 1 (cells ++ u8a l)) r p hp g2.os g2.tape g2.output g2.size hw hlt ?_) _ (by rw [Den]))
  have hF : ∀ k, FB V (H.set p (.row ad' (n + l.length) cap' e 1 (cells ++ u8a l))) k → FB V H k ∨ w.heap.size ≤ k := by
    intro k hk
    rcases hk with hk | ⟨y, hy, e⟩
    · exact .inl (.inl hk)
    · rcases List.mem_or_eq_of_mem_set hy with hy | rfl
      · exact .inl (.inr ⟨y, hy, e⟩)
      · rcases (hlt k e).2 with h | h
        · exact .inl (.inr ⟨_, List.mem_of_getElem? hp, h⟩)
        · exact .inr h
  have hw' : ∀ k, k < w.heap.size → ¬ FB V H k → w'.heap[k]? = w.heap[k]? := fun k hk hn => hw k hk fun e => hn (.inr ⟨_, List.mem_of_getElem? hp, e⟩)
  exact ⟨vals ++ u8s l, (DenL.conv hF hw' _ _ hd).app DenL.exact, g1, fun u hu => by
    rcases List.mem_append.1 hu with h | h
    · exact h1 u h
    · exact u8s_one l u h⟩
end
end Go.Proofs.YtfaljkenmbbbaaaDoor
/- The tokens of two texts, one on the lines after the other; what a shift of places does; that places ascend. No program in sight. -/
namespace Go.Proofs.YtfaljkenmbbbaaaDoor
open Go.RowKit
set_option linter.unusedSimpArgs false
set_option linter.unusedVariables false
section
variable (t : List UInt8)
theorem cmt_app : ∀ l : List UInt8, cmt (l ++ 10 :: t) = cmt l
  | [] => by rw [List.nil_append, cmt_no _ _ (by decide)]; rfl
  | c :: r => by
    rw [List.cons_append]
    by_cases h : c.toNat = 10
    · rw [cmt_no _ _ h, cmt_no _ _ h]
    · rw [cmt_yes _ _ h, cmt_yes _ _ h, cmt_app r]
theorem skp_app (l : List UInt8) : skp (l ++ 10 :: t) = if skp l = l.length then l.length + 1 + skp t else skp l := by
  induction h : l.length using Nat.strongRecOn generalizing l with
  | _ n ih =>
    cases l with
    | nil =>
      simp only [List.length_nil] at h
      subst h
      rw [List.nil_append, skp_blank 10 t (by decide), skp_nil, if_pos rfl]; omega
    | cons c r =>
      simp only [List.length_cons] at h
      rw [List.cons_append]
      by_cases h1 : c.toNat = 32 ∨ c.toNat = 9 ∨ c.toNat = 10 ∨ c.toNat = 13
      · rw [skp_blank _ _ h1, skp_blank _ _ h1, ih r.length (by omega) r rfl]
        by_cases h2 : skp r = r.length
        · rw [if_pos h2, if_pos (by omega)]; omega
        · rw [if_neg h2, if_neg (by omega)]
      · by_cases h2 : c.toNat = 35
        · have hc := cmt_app t (c :: r)
          rw [List.cons_append] at hc
          have hle := cmt_le (c :: r)
          have hyes := cmt_yes c r (by omega)
          simp only [List.length_cons] at hle
          rw [skp_cmt _ _ h2, skp_cmt _ _ h2, hc, ← List.cons_append, List.drop_append_of_le_length (by simpa using hle), ih ((c :: r).drop (cmt (c :: r))).length (by simp; omega) _ rfl]
          have hl : ((c :: r).drop (cmt (c :: r))).length = r.length + 1 - cmt (c :: r) := by simp
          by_cases h3 : skp ((c :: r).drop (cmt (c :: r))) = ((c :: r).drop (cmt (c :: r))).length
          · rw [if_pos h3, if_pos (by omega)]; omega
          · rw [if_neg h3, if_neg (by omega)]
        · rw [skp_no _ _ h1 h2, skp_no _ _ h1 h2, if_neg (by omega)]
theorem spn_app (p : UInt8 → Bool) (hp : p 10 = false) : ∀ l : List UInt8, spn p (l ++ 10 :: t) = spn p l
  | [] => by rw [List.nil_append, spn_no _ _ _ hp]; rfl
  | c :: r => by
    rw [List.cons_append]
    cases h : p c with
    | false => rw [spn_no _ _ _ h, spn_no _ _ _ h]
    | true => rw [spn_yes _ _ _ h, spn_yes _ _ _ h, spn_app p hp r]
theorem hexv_ten : hexv 10 = none := by decide
theorem escd_app (l : List UInt8) : escd (l ++ 10 :: t) = escd l := by
  cases l with
  | nil => rw [List.nil_append, escd_no _ _ (by decide)]; rfl
  | cons d r =>
    rw [List.cons_append]
    by_cases h1 : d.toNat = 34 ∨ d.toNat = 92
    · rw [escd_mark _ _ h1, escd_mark _ _ h1]
    by_cases h2 : d.toNat = 110
    · rw [escd_n _ _ h2, escd_n _ _ h2]
    by_cases h3 : d.toNat = 116
    · rw [escd_t _ _ h3, escd_t _ _ h3]
    by_cases h4 : d.toNat = 120
    · match r with
      | [] =>
        rw [List.nil_append, escd_x0 _ h4]
        cases t with
        | nil => rw [escd_x1 _ _ h4]
        | cons x y => rw [escd_x _ _ _ _ h4, hexv_ten]; rfl
      | [h] =>
        rw [List.cons_append, List.nil_append, escd_x1 _ _ h4, escd_x _ _ _ _ h4, hexv_ten]
        cases hexv h <;> rfl
      | h :: g :: y => rw [List.cons_append, List.cons_append, escd_x _ _ _ _ h4, escd_x _ _ _ _ h4]
    · rw [escd_no _ _ (by omega), escd_no _ _ (by omega)]
theorem part_app (c : UInt8) (r : List UInt8) : part (c :: (r ++ 10 :: t)) = part (c :: r) := by
  rw [part_cons, part_cons, escd_app]
theorem quo_app (l : List UInt8) : quo (l ++ 10 :: t) = quo l := by
  induction h : l.length using Nat.strongRecOn generalizing l with
  | _ n ih =>
    cases l with
    | nil => rw [List.nil_append, quo_no _ _ (by decide) (by rw [part_cons, if_pos (.inl (by decide))]), quo_nil]
    | cons c r =>
      simp only [List.length_cons] at h
      rw [List.cons_append]
      by_cases h1 : c.toNat = 34
      · rw [quo_end _ _ h1, quo_end _ _ h1]
      · have hp := part_app t c r
        cases hq : part (c :: r) with
        | none => rw [quo_no _ _ h1 (hp.trans hq), quo_no _ _ h1 hq]
        | some x =>
          obtain ⟨b, m⟩ := x
          have hle := part_le hq
          rw [quo_part _ _ b m h1 (hp.trans hq), quo_part _ _ b m h1 hq, ← List.cons_append, List.drop_append_of_le_length hle.2.2, ih _ (by simp; omega) _ rfl]
theorem sla_app (l : List UInt8) : sla (l ++ 10 :: t) = sla l := by
  induction h : l.length using Nat.strongRecOn generalizing l with
  | _ n ih =>
    cases l with
    | nil => rw [List.nil_append, sla_bad _ _ (by decide), sla_nil]
    | cons c r =>
      simp only [List.length_cons] at h
      rw [List.cons_append]
      by_cases h1 : c.toNat = 47
      · rw [sla_end _ _ h1, sla_end _ _ h1]
      by_cases h2 : c.toNat < 32
      · rw [sla_bad _ _ h2, sla_bad _ _ h2]
      by_cases h3 : c.toNat = 92
      · cases r with
        | nil => rw [List.nil_append, sla_bad2 _ _ _ h3 (by decide), sla_last _ h3]
        | cons d y =>
          simp only [List.length_cons] at h
          rw [List.cons_append]
          by_cases h4 : d.toNat < 32
          · rw [sla_bad2 _ _ _ h3 h4, sla_bad2 _ _ _ h3 h4]
          by_cases h5 : d.toNat = 47
          · rw [sla_esc _ _ _ h3 h5, sla_esc _ _ _ h3 h5, ih _ (by omega) y rfl]
          · rw [sla_two _ _ _ h3 (by omega) h5, sla_two _ _ _ h3 (by omega) h5, ih _ (by omega) y rfl]
      · rw [sla_one _ _ h1 (by omega) h3, sla_one _ _ h1 (by omega) h3, ih _ (by omega) r rfl]
theorem one_app (c : UInt8) (r : List UInt8) : one (c :: (r ++ 10 :: t)) = one (c :: r) := by
  have hw := spn_app t isWrd (by decide) (c :: r)
  have hd := spn_app t isDig (by decide) (c :: r)
  have hwl := spn_le isWrd (c :: r)
  have hdl := spn_le isDig (c :: r)
  rw [List.cons_append] at hw hd
  have e1 : (c :: (r ++ 10 :: t)).take (spn isWrd (c :: r)) = (c :: r).take (spn isWrd (c :: r)) := by rw [← List.cons_append, List.take_append_of_le_length hwl]
  have e2 : (c :: (r ++ 10 :: t)).take (spn isDig (c :: r)) = (c :: r).take (spn isDig (c :: r)) := by rw [← List.cons_append, List.take_append_of_le_length hdl]
  simp only [one, hw, hd, e1, e2, quo_app, sla_app]
/-- Two texts, the second on the lines after the first. -/
theorem lexGo_app : ∀ (m : Nat) (l : List UInt8) (p : Nat × Nat) (n : Nat), l.length ≤ m →
    (∀ f, lexGo p n l = .error f → lexGo p n (l ++ 10 :: t) = .error f) ∧
    (∀ ts, lexGo p n l = .ok ts → ∃ qs e, ts = qs ++ [e] ∧ e.kind = 6 ∧ e.text = [] ∧ lexGo p n (l ++ 10 :: t) = (lexGo (plc p (l ++ [10])) (n + qs.length) t).map (qs ++ ·))
  | m, l, p, n, hm => by
    have hsa := skp_app t l
    have hsl := skp_le' l
    cases hd : l.drop (skp l) with
    | nil =>
      have hfull : skp l = l.length := by have := congrArg List.length hd; simp at this; omega
      rw [if_pos hfull] at hsa
      rw [lexGo_end p n l hd]
      refine ⟨fun f h => (by cases h), fun ts h => ?_⟩
      cases h
      refine ⟨[], _, rfl, rfl, rfl, ?_⟩
      have hz : ∀ x : Except Flt (List Tok), x.map (([] : List Tok) ++ ·) = x := fun x => except_map_id x _ fun a => rfl
      rw [hz, List.length_nil, Nat.add_zero]
      have hdr : (l ++ 10 :: t).drop (skp (l ++ 10 :: t)) = t.drop (skp t) := by
        rw [hsa, List.drop_append, show l.drop (l.length + 1 + skp t) = [] from List.drop_eq_nil_of_le (by omega), List.nil_append, show l.length + 1 + skp t - l.length = skp t + 1 from by omega, List.drop_succ_cons]
      have hpl : ∀ k, plc p ((l ++ 10 :: t).take (skp (l ++ 10 :: t) + k)) = plc (plc p (l ++ [10])) (t.take (skp t + k)) := fun k => by
        rw [← plc_app', hsa, show l ++ 10 :: t = (l ++ [10]) ++ t by simp, List.take_append, List.take_of_length_le (by simp; omega)]
        congr 2; simp; omega
      cases ht : t.drop (skp t) with
      | nil =>
        rw [lexGo_end _ _ _ (hdr.trans ht), lexGo_end _ _ _ ht, ← plc_app']
        simp
      | cons c r =>
        have hp0 := hpl 0
        simp only [Nat.add_zero] at hp0
        cases h1 : one (c :: r) with
        | error e => rw [lexGo_bad _ _ _ c r e (hdr.trans ht) h1, lexGo_bad _ _ _ c r e ht h1, hp0]
        | ok x =>
          by_cases hn : 2000 ≤ n
          · rw [lexGo_full _ _ _ c r x (hdr.trans ht) h1 hn, lexGo_full _ _ _ c r x ht h1 hn, hp0]
          · obtain ⟨a, b, q⟩ := x
            have g := one_le h1
            rw [lexGo_one _ _ _ c r a b q (hdr.trans ht) h1 g.1 (by omega), lexGo_one _ _ _ c r a b q ht h1 g.1 (by omega), hpl, hp0]
    | cons c r =>
      have hne : ¬ skp l = l.length := fun e => by rw [e, List.drop_length] at hd; cases hd
      rw [if_neg hne] at hsa
      have hlen := congrArg List.length hd
      simp only [List.length_drop, List.length_cons] at hlen
      have hdr : (l ++ 10 :: t).drop (skp (l ++ 10 :: t)) = c :: (r ++ 10 :: t) := by
        rw [hsa, List.drop_append_of_le_length hsl, hd, List.cons_append]
      have hpl : ∀ k, skp l + k ≤ l.length → plc p ((l ++ 10 :: t).take (skp (l ++ 10 :: t) + k)) = plc p (l.take (skp l + k)) := fun k hk => by
        rw [hsa, List.take_append_of_le_length hk]
      have hp0 := hpl 0 (by omega)
      simp only [Nat.add_zero] at hp0
      have ho := one_app t c r
      cases h1 : one (c :: r) with
      | error e =>
        rw [lexGo_bad _ _ _ c r e hd h1, lexGo_bad _ _ _ c _ e hdr (ho.trans h1), hp0]
        exact ⟨fun f h => h, fun ts h => by cases h⟩
      | ok x =>
        by_cases hn : 2000 ≤ n
        · rw [lexGo_full _ _ _ c r x hd h1 hn, lexGo_full _ _ _ c _ x hdr (ho.trans h1) hn, hp0]
          exact ⟨fun f h => h, fun ts h => by cases h⟩
        · obtain ⟨a, b, q⟩ := x
          have g := one_le h1
          simp only [List.length_cons] at g
          rw [lexGo_one _ _ _ c r a b q hd h1 g.1 (by omega), lexGo_one _ _ _ c _ a b q hdr (ho.trans h1) g.1 (by omega), hp0, hpl q (by omega), ← List.cons_append, List.drop_append_of_le_length (by simpa using g.2.1)]
          cases m with
          | zero => omega
          | succ m =>
            obtain ⟨k1, k2⟩ := lexGo_app m ((c :: r).drop q) (plc p (l.take (skp l + q))) (n + 1) (by simp; omega)
            cases hr : lexGo (plc p (l.take (skp l + q))) (n + 1) ((c :: r).drop q) with
            | error f =>
              rw [k1 f hr]
              exact ⟨fun f h => h, fun ts h => by cases h⟩
            | ok ys =>
              refine ⟨fun f h => (by cases h), fun ts h => ?_⟩
              obtain ⟨qs, e, rfl, k3, k4, k5⟩ := k2 ys hr
              cases h
              refine ⟨_ :: qs, e, rfl, k3, k4, ?_⟩
              rw [k5]
              have hpp : plc (plc p (l.take (skp l + q))) ((c :: r).drop q ++ [10]) = plc p (l ++ [10]) := by
                rw [← plc_app', ← List.append_assoc]
                congr 2
                rw [← hd, List.drop_drop, List.take_append_drop]
              rw [hpp, List.length_cons, show n + 1 + qs.length = n + (qs.length + 1) from by omega]
              cases lexGo (plc p (l ++ [10])) (n + (qs.length + 1)) t <;> rfl
end
/-- Blanks ahead of a text. -/
theorem lexGo_pre (y x : List UInt8) (p : Nat × Nat) (n : Nat) (h : skp (y ++ x) = y.length + skp x) : lexGo p n (y ++ x) = lexGo (plc p y) n x := by
  have hdr : (y ++ x).drop (skp (y ++ x)) = x.drop (skp x) := by
    rw [h, List.drop_append, List.drop_eq_nil_of_le (by omega), List.nil_append]; congr 1; omega
  have hpl : ∀ k, plc p ((y ++ x).take (skp (y ++ x) + k)) = plc (plc p y) (x.take (skp x + k)) := fun k => by
    rw [← plc_app', h, List.take_append, List.take_of_length_le (by omega)]; congr 2; congr 1; omega
  have hp0 := hpl 0
  simp only [Nat.add_zero] at hp0
  cases ht : x.drop (skp x) with
  | nil => rw [lexGo_end _ _ _ (hdr.trans ht), lexGo_end _ _ _ ht, ← plc_app']
  | cons c r =>
    cases h1 : one (c :: r) with
    | error e => rw [lexGo_bad _ _ _ c r e (hdr.trans ht) h1, lexGo_bad _ _ _ c r e ht h1, hp0]
    | ok z =>
      by_cases hn : 2000 ≤ n
      · rw [lexGo_full _ _ _ c r z (hdr.trans ht) h1 hn, lexGo_full _ _ _ c r z ht h1 hn, hp0]
      · obtain ⟨a, b, q⟩ := z
        have g := one_le h1
        rw [lexGo_one _ _ _ c r a b q (hdr.trans ht) h1 g.1 (by omega), lexGo_one _ _ _ c r a b q ht h1 g.1 (by omega), hpl, hp0]
/-- A place is behind another. -/
def PL (a b : Nat × Nat) : Prop := a.1 < b.1 ∨ a.1 = b.1 ∧ a.2 < b.2
theorem PL.tr {a b c : Nat × Nat} (h : PL a b) (k : PL b c) : PL a c := by unfold PL at *; omega
theorem plc_lt : ∀ (y : List UInt8) (q : Nat × Nat), y ≠ [] → PL q (plc q y)
  | [], _, h => absurd rfl h
  | [c], q, _ => by
    simp only [plc]; unfold PL; split <;> simp
  | c :: d :: r, q, _ => by
    have h1 : PL q (plc q [c]) := by simp only [plc]; unfold PL; split <;> simp
    have h2 := plc_lt (d :: r) (plc q [c]) (by simp)
    rw [← plc_app'] at h2
    exact h1.tr h2
/-- The places of tokens ascend, from behind q on. -/
def Asc (q : Nat × Nat) : List Tok → Prop
  | [] => True
  | t :: ts => PL q (t.line, t.col) ∧ Asc (t.line, t.col) ts
theorem lexGo_asc : ∀ (m : Nat) (l : List UInt8) (p : Nat × Nat) (n : Nat) (q : Nat × Nat), l.length ≤ m → PL q p → ∀ ts, lexGo p n l = .ok ts → Asc q ts
  | m, l, p, n, q, hm, hq, ts, h => by
    have hle : ∀ k, PL q (plc p (l.take k)) := fun k => by
      cases hk : l.take k with
      | nil => exact hq
      | cons c r => exact hq.tr (plc_lt _ _ (by simp))
    cases hd : l.drop (skp l) with
    | nil =>
      rw [lexGo_end p n l hd] at h
      cases h
      have := hle l.length
      rw [List.take_length] at this
      exact ⟨this, trivial⟩
    | cons c r =>
      have hlen := congrArg List.length hd
      simp only [List.length_drop, List.length_cons] at hlen
      cases h1 : one (c :: r) with
      | error e => rw [lexGo_bad _ _ _ c r e hd h1] at h; cases h
      | ok x =>
        by_cases hn : 2000 ≤ n
        · rw [lexGo_full _ _ _ c r x hd h1 hn] at h; cases h
        · obtain ⟨a, b, k⟩ := x
          have g := one_le h1
          simp only [List.length_cons] at g
          rw [lexGo_one _ _ _ c r a b k hd h1 g.1 (by omega)] at h
          cases hr : lexGo (plc p (l.take (skp l + k))) (n + 1) ((c :: r).drop k) with
          | error e => rw [hr] at h; cases h
          | ok ys =>
            rw [hr] at h
            simp only [Except.map] at h
            cases h
            cases m with
            | zero => omega
            | succ m =>
              refine ⟨hle _, lexGo_asc m _ _ (n + 1) _ (by simp; omega) ?_ ys hr⟩
              rw [List.take_add, plc_app']
              exact plc_lt _ _ (by rw [hd]; intro e; have := congrArg List.length e; simp at this; omega)
theorem Asc.get : ∀ {ts : List Tok} {q : Nat × Nat}, Asc q ts → ∀ (k : Nat) (h : k + 1 < ts.length), PL (ts[k].line, ts[k].col) (ts[k + 1].line, ts[k + 1].col)
  | [], _, _, k, h => by simp at h
  | [t], _, _, k, h => by simp at h
  | t :: u :: ts, q, hA, 0, h => hA.2.1
  | t :: u :: ts, q, hA, k + 1, h => Asc.get hA.2 k (by simpa using h)
/-- Tokens that are the same, d lines further down; with the same columns if c. -/
def TR (d : Nat) (c : Bool) (x y : Tok) : Prop := y.kind = x.kind ∧ y.text = x.text ∧ y.line = x.line + d ∧ (c = true → y.col = x.col)
def TRs (d : Nat) (c : Bool) : List Tok → List Tok → Prop
  | [], [] => True
  | x :: xs, y :: ys => TR d c x y ∧ TRs d c xs ys
  | _, _ => False
theorem TRs.len {d : Nat} {c : Bool} : ∀ {xs ys : List Tok}, TRs d c xs ys → ys.length = xs.length
  | [], [], _ => rfl
  | x :: xs, y :: ys, h => by simp [TRs.len h.2]
  | [], y :: ys, h => h.elim
  | x :: xs, [], h => h.elim
theorem TRs.get {d : Nat} {c : Bool} : ∀ {xs ys : List Tok}, TRs d c xs ys → ∀ (k : Nat) (h1 : k < xs.length) (h2 : k < ys.length), TR d c xs[k] ys[k]
  | [], [], _, k, h1, _ => by simp at h1
  | x :: xs, y :: ys, h, 0, _, _ => h.1
  | x :: xs, y :: ys, h, k + 1, h1, h2 => TRs.get h.2 k (by simpa using h1) (by simpa using h2)
  | [], y :: ys, h, _, _, _ => h.elim
  | x :: xs, [], h, _, _, _ => h.elim
def TRe (d : Nat) (c : Bool) : Except Flt (List Tok) → Except Flt (List Tok) → Prop
  | .error f, .error g => g.code = f.code ∧ g.line = f.line + d ∧ (c = true → g.col = f.col)
  | .ok ts, .ok us => TRs d c ts us
  | _, _ => False
/-- Two places of which the one is d lines further down. -/
def PD (d : Nat) (c : Bool) (p q : Nat × Nat) : Prop := q.1 = p.1 + d ∧ (c = true → q.2 = p.2)
theorem plc_pd {d : Nat} {c : Bool} : ∀ (l : List UInt8) {p q : Nat × Nat}, PD d c p q → PD d c (plc p l) (plc q l)
  | [], _, _, h => h
  | x :: r, p, q, h => by
    simp only [plc]
    refine plc_pd r ?_
    obtain ⟨h1, h2⟩ := h
    split
    · exact ⟨by simp only; omega, fun _ => rfl⟩
    · exact ⟨h1, fun hc => by simp only; rw [h2 hc]⟩
theorem lexGo_pd {d : Nat} {c : Bool} : ∀ (m : Nat) (l : List UInt8) (p q : Nat × Nat) (n : Nat), l.length ≤ m → PD d c p q → TRe d c (lexGo p n l) (lexGo q n l)
  | m, l, p, q, n, hm, h => by
    cases hd : l.drop (skp l) with
    | nil =>
      rw [lexGo_end p n l hd, lexGo_end q n l hd]
      have := plc_pd l h
      exact ⟨⟨rfl, rfl, this.1, this.2⟩, trivial⟩
    | cons x r =>
      have hlen := congrArg List.length hd
      simp only [List.length_drop, List.length_cons] at hlen
      have hp := plc_pd (l.take (skp l)) h
      cases h1 : one (x :: r) with
      | error e => rw [lexGo_bad _ _ _ x r e hd h1, lexGo_bad _ _ _ x r e hd h1]; exact ⟨rfl, hp.1, hp.2⟩
      | ok z =>
        by_cases hn : 2000 ≤ n
        · rw [lexGo_full _ _ _ x r z hd h1 hn, lexGo_full _ _ _ x r z hd h1 hn]; exact ⟨rfl, hp.1, hp.2⟩
        · obtain ⟨a, b, k⟩ := z
          have g := one_le h1
          simp only [List.length_cons] at g
          rw [lexGo_one _ _ _ x r a b k hd h1 g.1 (by omega), lexGo_one _ _ _ x r a b k hd h1 g.1 (by omega)]
          cases m with
          | zero => omega
          | succ m =>
            have ih := lexGo_pd m ((x :: r).drop k) _ _ (n + 1) (by simp; omega) (plc_pd (l.take (skp l + k)) h)
            cases h3 : lexGo (plc p (l.take (skp l + k))) (n + 1) ((x :: r).drop k) with
            | error f =>
              cases h4 : lexGo (plc q (l.take (skp l + k))) (n + 1) ((x :: r).drop k) with
              | error g => rw [h3, h4] at ih; exact ih
              | ok us => rw [h3, h4] at ih; exact ih.elim
            | ok ts =>
              cases h4 : lexGo (plc q (l.take (skp l + k))) (n + 1) ((x :: r).drop k) with
              | error g => rw [h3, h4] at ih; exact ih.elim
              | ok us => rw [h3, h4] at ih; exact ⟨⟨rfl, rfl, hp.1, hp.2⟩, ih⟩
end Go.Proofs.YtfaljkenmbbbaaaDoor
/- The mill: a Procfile; that it ends, and how long it is. -/
namespace Go.Proofs.YtfaljkenmbbbaaaDoor
open Go.RowKit
set_option linter.unusedSimpArgs false
set_option linter.unusedVariables false
theorem nat_dn {v : Nat} (h : 0 < v) : (v : Int) - 1 = ((v - 1 : Nat) : Int) := by omega
theorem u8a_drop (b : List UInt8) (v : Nat) (h : v < b.length) : (u8a b).drop v = .x (.int .u8 ((b.getD v 0).toNat : Nat)) :: u8a (b.drop (v + 1)) := by
  have : b.drop v = b.getD v 0 :: b.drop (v + 1) := by rw [List.drop_eq_getElem_cons h, List.getD_eq_getElem?_getD, List.getElem?_eq_getElem h]; rfl
  rw [← u8a_cons, ← this]; simp [u8a, u8s]
/-- A byte of those that are only read. -/
theorem Evl_load_u8 {P : Program} {o : Oper} {ρ : Operand → AV} {H : List Hp} (t : TypeId) (x : Operand) (b : List UInt8) (v : Nat) (ho : o.op = .load t x) (hx : ρ x = .at_ ((u8a b).drop (v * 1))) (ht : aggT P t = some (false, 1)) (h : v < b.length) : Evl P o ρ H (.x (.int .u8 ((b.getD v 0).toNat : Nat))) := by
  rw [Nat.mul_one, u8a_drop b v h] at hx
  exact Evl_load_at t x _ false 1 ho hx ht (by simp) (by simp)
theorem Evl_load_u8' {P : Program} {o : Oper} {ρ : Operand → AV} {H : List Hp} (t : TypeId) (x : Operand) (b : List UInt8) (v : Nat) (ho : o.op = .load t x) (hx : ρ x = .at_ ((u8a b).drop v)) (ht : aggT P t = some (false, 1)) (h : v < b.length) : Evl P o ρ H (.x (.int .u8 ((b.getD v 0).toNat : Nat))) :=
  Evl_load_u8 t x b v ho (by rwa [Nat.mul_one]) ht h
theorem u8a_take (b : List UInt8) (v : Nat) : (u8a b).take v = u8a (b.take v) := by simp [u8a, u8s]
theorem u8a_drp (b : List UInt8) (v : Nat) : (u8a b).drop v = u8a (b.drop v) := by simp [u8a, u8s]
/-- Blanks and a comment laid at the beginning of a line, ahead of a blank: a text without a fault stays so. -/
theorem lexok_ins (u w : List UInt8) (h : LexOk (u ++ 10 :: w)) (hl : u.length + w.length ≤ 8000) : LexOk (u ++ 10 :: ([9, 35, 32, 99, 10, 32] ++ w)) := by
  obtain ⟨ts, h⟩ := h
  unfold lex at h
  rw [if_neg (by simp; omega)] at h
  obtain ⟨k1, k2⟩ := lexGo_app w u.length u (1, 1) 0 (Nat.le_refl _)
  obtain ⟨j1, j2⟩ := lexGo_app ([9, 35, 32, 99, 10, 32] ++ w) u.length u (1, 1) 0 (Nat.le_refl _)
  cases hu : lexGo (1, 1) 0 u with
  | error f => rw [k1 f hu] at h; cases h
  | ok us =>
    obtain ⟨qs, e, rfl, -, -, hx⟩ := k2 us hu
    obtain ⟨qs', e', he, -, -, hy⟩ := j2 _ hu
    have hq : qs' = qs := (List.append_inj' he rfl).1.symm
    subst hq
    rw [hx] at h
    have hsk : skp ([9, 35, 32, 99, 10, 32] ++ w) = [(9 : UInt8), 35, 32, 99, 10, 32].length + skp w := by
      show skp (9 :: 35 :: ([32, 99] ++ 10 :: 32 :: w)) = 6 + skp w
      have hc : cmt (35 :: ([32, 99] ++ 10 :: 32 :: w)) = 3 := by rw [← List.cons_append, cmt_app]; rfl
      rw [skp_blank _ _ (by decide), skp_cmt _ _ (by decide), hc]
      show 3 + skp (10 :: 32 :: w) + 1 = _
      rw [skp_blank _ _ (by decide), skp_blank _ _ (by decide)]; omega
    rw [lexGo_pre _ _ _ _ hsk] at hy
    generalize hp : plc (1, 1) (u ++ [10]) = p at *
    have hpd := lexGo_pd (d := 1) (c := false) w.length w p (plc p [9, 35, 32, 99, 10, 32]) (0 + qs'.length) (Nat.le_refl _) ⟨rfl, fun h => by cases h⟩
    cases h3 : lexGo p (0 + qs'.length) w with
    | error f => rw [h3] at h; cases h
    | ok vs =>
      cases h4 : lexGo (plc p [9, 35, 32, 99, 10, 32]) (0 + qs'.length) w with
      | error g => rw [h3, h4] at hpd; exact hpd.elim
      | ok ws =>
        rw [h4] at hy
        exact ⟨_, by unfold lex; rw [if_neg (by simp; omega)]; exact hy⟩
set_option maxRecDepth 100000 in
set_option maxHeartbeats 8000000 in
theorem procfile_w (bd : Nat) (l : List Int) (k : Nat) (hd : DK l) (hk : k ≤ l.length) : Spec Tryd.prog 12 [.box bd [.sq l.length (ia l), .x (.int .i64 k)]] [.x (.pointer (some ⟨bd, 0, none⟩))] (fun r H' => ∃ (s : List UInt8) (k' : Nat), r = .x (.string (bs s)) ∧ H' = [.box bd [.sq l.length (ia l), .x (.int .i64 k')]] ∧ k' ≤ l.length ∧ s.length ≤ 3650 ∧ LexOk s) := by
  refine Spec_of Tryd.func12 rfl ?_
  simp only [Tryd.ntmps12, List.length_cons, List.length_nil, List.replicate_succ, List.replicate_zero, List.cons_append, List.nil_append, Nat.reduceAdd, Nat.reduceSub]
  (repeat' (first | with_reducible (first | refine awp_seq ?_ | refine awp_region ?_ | refine awp_block ?_ | refine awpL_nil ?_ | refine thenA_normal ?_) | ((apply awpL_evl2 rfl); (case h => ((try (intro (hp : (_ : Bool) = true); ((try simp only [Bool.and_eq_true, Bool.not_eq_true', Bool.not_eq_true] at hp); (try simp only [hp, wte]); (try simp only [whn] at hp)))); (first | (apply Evl_k 0 rfl; (first | exact Evl_mv _ rfl | exact Evl_as _ rfl)) | (apply Evl_k 2 rfl; (exact Evl_extract _ _ _ _ rfl rfl rfl)) | (apply Evl_k 12 rfl; (exact Evl_bytes _ _ 5 _ _ rfl (by kernel_rfl) (by kernel_rfl) (by kernel_rfl) (by kernel_rfl) rfl (by omega)))))); (case hT => ((try simp only [wtn, List.append_eq, List.foldl_cons, List.foldl_nil, List.map_cons, List.map_nil, Nat.reduceAdd, Nat.reduceMul, Nat.reduceSub, ↓reduceIte, Nat.reduceEqDiff]); rfl))) | (refine awpL_cons rfl ?_; (((refine Stp_k 11 rfl ?_; (first | (refine Stp_call 21 Tryd.f21 [_] _ _ _ rfl rfl Tryd.func21 (by decide) rfl (List.Perm.refl _) (VwL.refl _ _) (jobs_w _ l k hd hk) ?_; rintro _ _ ⟨js, k1, rfl, rfl, hk1, hjs, hj⟩) | (refine Stp_call 20 Tryd.f20 ([]) _ _ _ rfl rfl Tryd.func20 (by decide) rfl (List.Perm.refl _) (VwL.refl _ _) (print_s js (by omega) hj) ?_; rintro _ _ ⟨s, e, rfl, rfl, hs, hlx⟩) | (refine Stp_call 19 Tryd.f19 [_] _ _ _ rfl rfl Tryd.func19 (by decide) rfl (List.Perm.refl _) (VwL.refl _ _) (next_w _ l k1 4 hd hk1 (by omega) (by omega)) ?_; rintro _ _ ⟨v1, k2, rfl, rfl, hv1, hk2⟩)))); apply awpL_cong; (case hT => ((try simp only [wtn, List.append_eq, List.foldl_cons, List.foldl_nil, List.map_cons, List.map_nil, Nat.reduceAdd, Nat.reduceMul, Nat.reduceSub, ↓reduceIte, Nat.reduceEqDiff]); rfl)); (case hH => ((try simp only [wtn, List.append_eq, List.foldl_cons, List.foldl_nil, List.map_cons, List.map_nil, Nat.reduceAdd, Nat.reduceMul, Nat.reduceSub, ↓reduceIte, Nat.reduceEqDiff]); rfl)))) | fail))
  apply awp_loopS (S := Nat × Nat × List UInt8) (fun s => frm 62 [(0, .x (.pointer (some ⟨bd, 0, none⟩))), (5, .sq s.2.2.length (u8a s.2.2)), (6, .x (.int .i64 s.1))]) (fun s => [.box bd [.sq l.length (ia l), .x (.int .i64 s.2.1)]]) (fun s => s.1 ≤ 3 ∧ s.2.1 ≤ l.length ∧ s.2.2.length + 7 * s.1 ≤ 3630 ∧ LexOk s.2.2) (fun s => s.1) (v1, k2, s)
  case h0 => exact (Weak.mk' [] _ (List.Perm.refl _) (VwHs.refl _ _) (by (repeat' (first | exact VwL.nil | (refine VwL.cons ?_ ?_) | exact Vw.refl _ | exact Vw.top _ | fail))))
  case hi => exact ⟨by simp only; omega, hk2, by simp only; omega, hlx⟩
  rintro ⟨m, kk, tx⟩ ⟨g1, g2, g3, g4⟩
  simp only at g1 g2 g3
  have g4' : Hid (LexOk tx) := Lib.hid g4
  clear g4
  simp only [frm, List.replicate_succ, List.replicate_zero, List.foldl_cons, List.foldl_nil, List.set_cons_zero, List.set_cons_succ]
  by_cases hm : 0 < m
  · (repeat' (first | with_reducible (first | refine awp_seq ?_ | refine awp_region ?_ | refine awp_block ?_ | refine awp_skip ?_ | refine awpL_nil ?_ | refine thenA_normal ?_ | refine inBlockA_normal ?_) | (refine awp_cond _ rfl (fun h => ?_) (fun h => ?_) <;> ((try (simp only [whn] at h)); first | (exfalso; omega; done) | skip)) | ((first | apply awpL_evl2 rfl | apply awpL_g2 _ _ rfl rfl rfl); (case h => ((try (intro (hp : (_ : Bool) = true); ((try simp only [Bool.and_eq_true, Bool.not_eq_true', Bool.not_eq_true] at hp); (try simp only [hp, wte]); (try simp only [whn] at hp)))); (first | (apply Evl_k 0 rfl; (first | exact Evl_mv _ rfl | exact Evl_as _ rfl)) | (apply Evl_k 1 rfl; (exact Evl_and _ _ _ _ _ rfl rfl rfl rfl)) | (apply Evl_k 3 rfl; (exact Evl_len _ _ _ _ _ _ HEl.out rfl rfl)) | (apply Evl_k 6 rfl; (exact Evl_load_u8' _ _ _ _ rfl rfl HAgg.out (by omega))) | (apply Evl_k 7 rfl; (first | exact Evl_index_sq _ _ _ _ _ _ _ _ _ _ rfl rfl rfl HEl.out rfl (by omega) (by rw [u8a_len]; omega) | (exact Evl_index_sq _ _ _ _ _ _ _ _ _ _ rfl rfl rfl HEl.out (nat_dn (by omega)) (by omega) (by rw [u8a_len]; omega)))) | (apply Evl_x; (case hs => (intro _ _ h; cases h)); (case hx => rfl); (case hrun => (intro w; simp [wtb, AV.val, go_sem]; (try go_bits); rfl)))))); (case hT => ((try simp (disch := omega) only [wtn, nat_up, List.append_eq, List.foldl_cons, List.foldl_nil, List.map_cons, List.map_nil, Nat.reduceAdd, Nat.reduceMul, Nat.reduceSub, ↓reduceIte, Nat.reduceEqDiff]); rfl))) | (refine awpL_cons rfl ?_; (((refine Stp_k 11 rfl ?_; ((refine Stp_call 19 Tryd.f19 [_] _ _ _ rfl rfl Tryd.func19 (by decide) rfl (List.Perm.refl _) (VwL.refl _ _) (next_w _ l kk (tx.length + 1) hd g2 (by omega) (by omega)) ?_; rintro _ _ ⟨v, k3, rfl, rfl, hv, hk3⟩)))); apply awpL_cong; (case hT => ((try simp (disch := omega) only [wtn, nat_up, List.append_eq, List.foldl_cons, List.foldl_nil, List.map_cons, List.map_nil, Nat.reduceAdd, Nat.reduceMul, Nat.reduceSub, ↓reduceIte, Nat.reduceEqDiff]); rfl)); (case hH => ((try simp (disch := omega) only [wtn, nat_up, List.append_eq, List.foldl_cons, List.foldl_nil, List.map_cons, List.map_nil, Nat.reduceAdd, Nat.reduceMul, Nat.reduceSub, ↓reduceIte, Nat.reduceEqDiff]); rfl)))) | fail))
    · have hvl : v < tx.length := h.1.1.2
      have hv0 : 0 < v := by have := h.1.1.1; omega
      have hb1 : (tx[v - 1]?.getD 0).toNat = 10 := by have := h.2; omega
      have hins : LexOk (tx.take (v - 0) ++ [9, 35, 32, 99, 10, 32] ++ (tx.drop v).take (tx.length - v)) := by
        have e10 : tx[v - 1]?.getD 0 = 10 := UInt8.toNat_inj.1 (by rw [hb1]; rfl)
        have hsp : tx.take v = tx.take (v - 1) ++ [10] := by
          have := List.take_succ_eq_append_getElem (l := tx) (i := v - 1) (by omega)
          rw [show v - 1 + 1 = v from by omega] at this
          rw [this]
          congr 1
          rw [List.getElem?_eq_getElem (by omega)] at e10
          simpa using e10
        have htx : tx = tx.take (v - 1) ++ 10 :: tx.drop v := by
          conv => lhs; rw [← List.take_append_drop v tx, hsp]
          simp
        have hg := g4'.out
        rw [htx] at hg
        have := lexok_ins _ _ hg (by simp; omega)
        rw [Nat.sub_zero, List.take_of_length_le (show (tx.drop v).length ≤ tx.length - v by simp), hsp]
        simpa using this
      clear h
      refine awp_mix (B := []) (R := [_]) mixed [1, 2, 3, 6, 7, 8, 0, 4, 5, 9] [0, 4, 5, 9] [10] none [] 1 (List.Perm.refl _) (by decide +kernel) rfl (fun i o h => by cases h) (by decide) ?_
      (repeat' (first | (apply dm_quiet rfl rfl; (case h => (intro H1; (try simp only [List.cons_append, List.nil_append]); (first | (apply Evl_k 0 rfl; (exact Evl_mv _ rfl)) | (apply Evl_k 9 rfl; (exact Evl_slice_sq _ _ _ _ _ _ _ _ _ _ rfl rfl HEl.out (by first | exact .inl ⟨rfl, rfl⟩ | exact .inr ⟨_, _, rfl, rfl⟩ | fail) (by first | exact .inl ⟨rfl, rfl⟩ | exact .inr ⟨_, _, rfl, rfl⟩ | fail) (by omega) (by omega)))))); (case hT => ((try simp (disch := omega) only [wtn, u8a_take, u8a_drp, List.append_eq, List.foldl_cons, List.foldl_nil, List.map_cons, List.map_nil, Nat.reduceAdd, Nat.reduceMul, Nat.reduceSub, ↓reduceIte, Nat.reduceEqDiff]); rfl))) | (apply dm_loud rfl rfl; (first | (refine Stp_k 13 rfl ?_; (first | (refine Stp_append _ _ _ _ _ _ _ _ _ _ _ _ _ _ rfl rfl FRow.out (Src.sq rfl) HElem.out (by simp [u8a_len] <;> omega) (fits _ _ (by simp <;> omega) (by decide)) (fun ad cap => ?_)) | (refine Stp_append_str _ _ _ _ _ _ _ _ _ _ [9, 35, 32, 99, 10, 32] rfl rfl FRow.out rfl HElem.out (by kernel_rfl) (by simp <;> omega) (fun ad cap => ?_)))) | (refine Stp_k 17 rfl ?_; ((refine Stp_buildSlice _ _ _ _ _ _ _ _ rfl HElem.out (by first | rfl | fail) rfl (by decide) rfl (fun b => ?_))))); refine ⟨_, rfl, ?_⟩; apply dm_cong; (case hT => ((try simp (disch := omega) only [wtn, u8a_take, u8a_drp, List.append_eq, List.foldl_cons, List.foldl_nil, List.map_cons, List.map_nil, Nat.reduceAdd, Nat.reduceMul, Nat.reduceSub, ↓reduceIte, Nat.reduceEqDiff]); rfl)); (case hH => ((try simp (disch := omega) only [wtn, u8a_take, u8a_drp, List.append_eq, List.foldl_cons, List.foldl_nil, List.map_cons, List.map_nil, Nat.reduceAdd, Nat.reduceMul, Nat.reduceSub, ↓reduceIte, Nat.reduceEqDiff]); rfl))) | fail))
      (first | refine dm_end_none ?_ | fail); (apply awpA_cong; (case hT => ((try simp only [wtn, List.append_eq, List.foldl_cons, List.foldl_nil, List.map_cons, List.map_nil, Nat.reduceAdd, Nat.reduceMul, Nat.reduceSub, ↓reduceIte, Nat.reduceEqDiff]); rfl)); (case hH => (simp only [List.cons_append, List.nil_append]; rfl))); (refine awpA_1 10 (by decide +kernel) rfl rfl ?_; (first | (apply Stp_evl; (case h => ((apply Evl_k 0 rfl; (exact Evl_as _ rfl)))); (apply awpA_cong; (case hT => ((try simp only [wtn, List.append_eq, List.foldl_cons, List.foldl_nil, List.map_cons, List.map_nil, Nat.reduceAdd, Nat.reduceMul, Nat.reduceSub, ↓reduceIte, Nat.reduceEqDiff]); rfl)); (case hH => rfl))) | fail)); refine awpA_done (by decide +kernel) ?_
      (repeat' (first | with_reducible (first | refine awp_region ?_ | refine awpL_nil ?_ | refine thenA_normal ?_ | refine inBlockA_normal ?_) | ((apply awpL_evl2 rfl); (case h => ((try (intro (hp : (_ : Bool) = true); ((try simp only [Bool.and_eq_true, Bool.not_eq_true', Bool.not_eq_true] at hp); (try simp only [hp, wte]); (try simp only [whn] at hp)))); (first | (apply Evl_k 0 rfl; (first | exact Evl_mv _ rfl | exact Evl_as _ rfl)) | (apply Evl_x; (case hs => (intro _ _ h; cases h)); (case hx => rfl); (case hrun => (intro w; simp [wtb, AV.val, go_sem]; (try go_bits); rfl)))))); (case hT => ((try simp only [wtn, List.append_eq, List.foldl_cons, List.foldl_nil, List.map_cons, List.map_nil, Nat.reduceAdd, Nat.reduceMul, Nat.reduceSub, ↓reduceIte, Nat.reduceEqDiff]); rfl))) | fail))
      have e : (tx.take (v - 0) ++ [9, 35, 32, 99, 10, 32] ++ (tx.drop v).take (tx.length - v)).length = v - 0 + 6 + (tx.length - v) := by
        simp only [List.length_append, List.length_take, List.length_drop, List.length_cons, List.length_nil]; omega
      refine ⟨(m - 1, k3, tx.take (v - 0) ++ [9, 35, 32, 99, 10, 32] ++ (tx.drop v).take (tx.length - v)), by simp only; omega, ⟨by simp only; omega, hk3, by simp only [e]; omega, hins⟩, ?_⟩
      simp only [e, u8a_app]
      exact Weak.mk' [.row ad _ cap _ _ _] [.box bd _] (List.Perm.refl _) (VwHs.refl _ _) (by (repeat' (first | exact VwL.nil | apply VwL.cons | exact Vw.row (List.Mem.head _) (VwL.refl _ _) | exact Vw.refl _ | exact Vw.top _ | (refine Vw.eq ?_; (congr 3; omega)) | fail)))
    · exact ⟨(m - 1, k3, tx), by simp only; omega, ⟨by simp only; omega, hk3, by simp only; omega, g4'.out⟩, (Weak.mk' [] _ (List.Perm.refl _) (VwHs.refl _ _) (by (repeat' (first | exact VwL.nil | (refine VwL.cons ?_ ?_) | exact Vw.refl _ | exact Vw.top _ | (refine Vw.eq ?_; (congr 3; omega)) | fail))))⟩
  · (repeat' (first | with_reducible (first | refine awp_seq ?_ | refine awp_region ?_ | refine awp_ret ?_ | refine awp_exit ?_ | refine awpL_nil ?_ | refine thenA_normal ?_ | refine thenA_exit ?_ | refine inBlockA_eq ?_) | (refine awp_cond _ rfl (fun h => ?_) (fun h => ?_) <;> ((try (simp only [whn] at h)); first | (exfalso; omega; done) | skip)) | ((apply awpL_evl2 rfl); (case h => ((try (intro (hp : (_ : Bool) = true); ((try simp only [Bool.and_eq_true, Bool.not_eq_true', Bool.not_eq_true] at hp); (try simp only [hp, wte]); (try simp only [whn] at hp)))); (first | (apply Evl_k 0 rfl; (first | exact Evl_mv _ rfl | exact Evl_as _ rfl)) | (apply Evl_k 12 rfl; (exact Evl_string _ _ 5 _ tx rfl (by kernel_rfl) (by kernel_rfl) (by kernel_rfl) (Src.sq rfl))) | (apply Evl_x; (case hs => (intro _ _ h; cases h)); (case hx => rfl); (case hrun => (intro w; simp [wtb, AV.val, go_sem]; (try go_bits); rfl)))))); (case hT => ((try simp only [wtn, List.append_eq, List.foldl_cons, List.foldl_nil, List.map_cons, List.map_nil, Nat.reduceAdd, Nat.reduceMul, Nat.reduceSub, ↓reduceIte, Nat.reduceEqDiff]); rfl))) | fail))
    refine endA_ret _ _ (Res1 rfl (RV.tmp _) (Weak.mk' [] _ (List.Perm.refl _) (VwHs.refl _ _) (VwL.refl _ _))) ?_
    exact ⟨tx, kk, rfl, rfl, g2, by omega, g4'.out⟩
end Go.Proofs.YtfaljkenmbbbaaaDoor
/- A walk over symbolic memory: in a region that draws its order, loads out of memory that is not the call's own may be taken first, whatever writes own memory. No program in sight. -/
namespace Go.Proofs.YtfaljkenmbbbaaaDoor
open Go.RowKit
set_option linter.unusedSimpArgs false
set_option linter.unusedVariables false
section
variable {P : Program} {V O : Nat → Prop} {w0 w w' : World} {B H H' R : List Hp} {T T' : List AV} {a a' : Act} {o : Oper} {ops : Array Oper} {Q : Post} {listed : Array Bool} {fuel : Nat}
/-- All that is not in R is as it was in wr. -/
def SameF (wr : World) (R : List Hp) (w : World) : Prop := ∀ k, k < wr.heap.size → ¬ blks R k → w.heap[k]? = wr.heap[k]?
/-- The rest of a region that draws its order; nothing has been turned yet. -/
def awpF (P : Program) (ops : Array Oper) (Q : Post) (fuel : Nat) (listed : Array Bool) (T : List AV) (H : List Hp) : Prop :=
  ∀ V O w0 a w, Rel V O w0 H T a w → wpAnyP P .any ops (lift V O w0 Q) [] (SameF w H) fuel listed a w
/-- And when something has; R: what was own memory at its beginning. -/
def awpG (P : Program) (ops : Array Oper) (Q : Post) (R : List Hp) (fuel : Nat) (listed : Array Bool) (T : List AV) (H : List Hp) : Prop :=
  ∀ V O w0 wr a w, Rel V O w0 H T a w → SameF wr R w → wr.heap.size ≤ w.heap.size → (∀ h ∈ H, ∀ k, h.blk = some k → blks R k ∨ wr.heap.size ≤ k) → wpAnyP P .any ops (lift V O w0 Q) [] (SameF wr R) fuel listed a w
theorem awpF_drawn {id : Nat} {l : List Oper} (hm : P.follows .mixedOrders = true) (h : awpF P l.toArray Q l.length (Array.replicate l.length false) T H) : awp P (.region id l.toArray true) Q T H :=
  awp_drawnA hm fun V O w0 a w r => (h V O w0 a w r).any
theorem awpF_cong {T' : List AV} {H' : List Hp} (hT : T = T') (hH : H = H') (h : awpF P ops Q fuel listed T' H') : awpF P ops Q fuel listed T H := hT ▸ hH ▸ h
theorem awpG_cong {T' : List AV} {H' : List Hp} (hT : T = T') (hH : H = H') (h : awpG P ops Q R fuel listed T' H') : awpG P ops Q R fuel listed T H := hT ▸ hH ▸ h
theorem awpF_yield (i : Nat) {o : Oper} {l : List Oper} (hi : nthO l i = some o) (hg : o.guard = none) (hc : takeOk l.toArray listed i = true) (hpan : ∀ c T H, ¬ Q (.panic c) T H) (av : AV)
    (h : ∀ V a w, OK V H (ev T) o a w → ∃ v, (∀ w', SameF w H w' → (execOp a.eval o).run P w' = .ok (.value v) w') ∧ Den (FB V H) w av v) (hK : awpF P l.toArray Q fuel (listed.setIfInBounds i true) (putT T o.dst av) H) : awpF P l.toArray Q (fuel + 1) listed T H := by
  have hi : l.toArray[i]? = some o := by rw [List.getElem?_toArray, ← nthO_eq]; exact hi
  intro V O w0 a w r
  obtain ⟨v, hv, hd⟩ := h V a w (r.oks o)
  unfold takeOk at hc
  simp only [Bool.and_eq_true] at hc
  exact wpAnyP.first hi hc.1.1 (fun c a w ⟨T, H, _, hq⟩ => absurd hq (hpan c T H)) (fun j o hj => by simp at hj) (Region.free_spec hi hc.1.2) (by simpa using hc.2) (.inl ⟨by simp [Region.wanted, hg], hv⟩) (fun _ _ _ => rfl) (hK V O w0 _ w (r.put _ hd))
theorem awpF_take (i : Nat) {o : Oper} {l : List Oper} (hi : nthO l i = some o) (hg : o.guard = none) (hc : takeOk l.toArray listed i = true) (hpan : ∀ c T H, ¬ Q (.panic c) T H) (av : AV) (h : WInd P o (ev T) H av) (hK : awpF P l.toArray Q fuel (listed.setIfInBounds i true) (putT T o.dst av) H) : awpF P l.toArray Q (fuel + 1) listed T H :=
  awpF_yield i hi hg hc hpan av (fun V a w ok => by obtain ⟨v, hv, hd⟩ := h V a w ok; exact ⟨v, fun w' _ => hv w', hd⟩) hK
/-- A load out of memory that is only read. -/
theorem awpF_load_at (i : Nat) {o : Oper} {l : List Oper} (hi : nthO l i = some o) (hg : o.guard = none) (hc : takeOk l.toArray listed i = true) (hpan : ∀ c T H, ¬ Q (.panic c) T H) (t : TypeId) (x : Operand) (cells : List AV) (agg : Bool) (n : Nat)
    (ho : o.op = .load t x) (hx : ev T x = .at_ cells) (ht : aggT P t = some (agg, n)) (hn : n ≤ cells.length) (hn0 : 0 < cells.length)
    (hK : awpF P l.toArray Q fuel (listed.setIfInBounds i true) (putT T o.dst (ldA agg n cells)) H) : awpF P l.toArray Q (fuel + 1) listed T H :=
  awpF_yield i hi hg hc hpan _ (fun V a w ok => by
    have hd := ok.ops x (by simp [ho, Op.operands])
    rw [hx, Den] at hd
    obtain ⟨b, off, vals, hv, hm, hl⟩ := hd
    rcases hm with rfl | ⟨b', o', e, hb, hcl⟩
    · have := hl.len; simp at this; omega
    · cases e
      obtain ⟨v, hr, hdv⟩ := run_loadVar_vals (P := P) t agg n ht w _ b off cells vals hl hn (fun _ => hn0)
      refine ⟨v, fun w' hS => ?_, hdv⟩
      have := hr w' fun j u hj => by
        have hu := (hcl j u hj).1
        have hlt : b < w.heap.size := World.block_lt_of_cell? w _ hu
        rw [World.cell?_of_block (a := ⟨b, off + j, none⟩) (hS b hlt fun ⟨y, hy, e⟩ => hb (.inr ⟨y, hy, e⟩))]; exact hu
      simp [execOp, ho, hv, Instr.loadAt, Instr.sureAddr, this]) hK
theorem awpF_go {l : List Oper} (h : awpG P l.toArray Q H fuel listed T H) : awpF P l.toArray Q fuel listed T H := fun V O w0 a w r =>
  h V O w0 w a w r (fun _ _ _ => rfl) (Nat.le_refl _) fun x hx k hk => .inl ⟨x, hx, hk⟩
theorem awpG_done (hr : Region.ready .any ops listed = []) (h : Q .normal T H) : awpG P ops Q R fuel listed T H := fun V O w0 wr a w r _ _ _ => by
  cases fuel with
  | zero => exact ⟨hr, ⟨T, H, r, h⟩⟩
  | succ n => exact ⟨fun _ => ⟨T, H, r, h⟩, fun j hj => by rw [hr] at hj; cases hj⟩
theorem wpOp_of_stpG {j : Nat} (hi : ops[j]? = some o) (hg : o.guard = none) (h : Stp P o T H (awpG P ops Q R fuel (listed.setIfInBounds j true))) (V O : Nat → Prop) (w0 wr : World) (r : Rel V O w0 H T a w) (hS : SameF wr R w) (hz : wr.heap.size ≤ w.heap.size) (hown : ∀ h ∈ H, ∀ k, h.blk = some k → blks R k ∨ wr.heap.size ≤ k) :
    wpOp P ops (lift V O w0 Q) j (fun a' w' => (([] : List Nat).contains j = false → SameF wr R w → SameF wr R w') ∧ wpAnyP P .any ops (lift V O w0 Q) [] (SameF wr R) fuel (listed.setIfInBounds j true) a' w') a w := by
  unfold wpOp
  simp only [hi]
  rw [if_pos (by simp [Region.wanted, hg])]
  have r0 : Rel V O w0 ([] ++ H) T a w := r
  refine .inl (h _ _ _ a w _ _ r0.aside fun T' H' a' w' hk hr => ?_)
  obtain ⟨r', _⟩ := r0.rejoin hr
  have hS' : SameF wr R w' := fun k hk hn => by
    refine (hr.fr.block k (Nat.lt_of_lt_of_le hk hz) fun ⟨y, hy, e⟩ => ?_).trans (hS k hk hn)
    rcases hown y hy k e with h1 | h1
    · exact hn h1
    · omega
  refine ⟨fun _ _ => hS', hk V O w0 wr a' w' r' hS' (Nat.le_trans hz hr.fr.size) fun x hx k e => ?_⟩
  rcases hr.own x hx k e with ⟨y, hy, e'⟩ | h1
  · exact hown y hy k e'
  · exact .inr (Nat.le_trans hz h1)
theorem awpG_1 (i : Nat) {o : Oper} {l : List Oper} (hr : Region.ready .any l.toArray listed = [i]) (hi : nthO l i = some o) (hg : o.guard = none) (h : Stp P o T H (awpG P l.toArray Q R fuel (listed.setIfInBounds i true))) : awpG P l.toArray Q R (fuel + 1) listed T H := fun V O w0 wr a w r hS hz hown =>
  ⟨fun h0 => (by rw [hr] at h0; cases h0), fun j hj => by
    rw [hr, List.mem_singleton] at hj; subst hj
    exact wpOp_of_stpG (by rw [List.getElem?_toArray, ← nthO_eq]; exact hi) hg h V O w0 wr r hS hz hown⟩
end
end Go.Proofs.YtfaljkenmbbbaaaDoor
/- A walk over symbolic memory: bytes of a string as a row of the call's own; parts of such rows. No program in sight. -/
namespace Go.Proofs.YtfaljkenmbbbaaaDoor
open Go.RowKit
set_option linter.unusedSimpArgs false
set_option linter.unusedVariables false
section
variable {P : Program} {V O : Nat → Prop} {w0 w w' : World} {H H' D : List Hp} {T T' : List AV} {a : Act} {o : Oper} {ρ : Operand → AV} {Q : Post}
/-- What is known of an owned row. -/
theorem awp_row3 {c : Code} (i : Nat) {ad : Option Addr} {n cap : Nat} {e : TypeId} {size : Nat} {cells : List AV} (hi : H[i]? = some (.row ad n cap e size cells))
    (h : n ≤ cap → cap ≤ maxLen → ((ad = none ∧ n = 0 ∧ cap = 0) ∨ ∃ b, ad = some ⟨b, 0, none⟩) → awp P c Q T H) : awp P c Q T H := fun V O w0 a w r => by
  obtain ⟨vals, hd, hown, hone⟩ := r.hp i _ hi
  rcases hown.2 with ⟨e1, rfl⟩ | ⟨g', cap1, cur, e1, hbg, hg, hnc, hcm, hcs, htake⟩
  · cases e1; exact h (Nat.le_refl _) (Nat.zero_le _) (.inl ⟨rfl, rfl, rfl⟩) V O w0 a w r
  · simp only [Value.slice.injEq] at e1
    obtain ⟨rfl, -, rfl⟩ := e1
    exact h hnc hcm (.inr ⟨_, rfl⟩) V O w0 a w r
/-- A part of a box, as the model names it. -/
theorem Src.cut {x : Operand} (q : Nat) {b off n cap l h : Nat} {cells news : List AV} (hx : ρ x = .x (.slice (if cap = l then some ⟨b, off, none⟩ else some ⟨b, off + l * 1, none⟩) (h - l) (cap - l))) (hq : H[q]? = some (.box b cells)) (h1 : l ≤ h) (h2 : h ≤ cap) (h3 : cap ≤ maxLen) (h4 : news = (cells.drop (off + l)).take (h - l)) : Src ρ H x (h - l) news := by
  by_cases hc : cap = l
  · rw [if_pos hc] at hx
    refine Src.part q hx hq (by omega) (by omega) ?_
    rw [h4, show h - l = 0 by omega, List.take_zero, List.take_zero]
  · rw [if_neg hc, Nat.mul_one] at hx
    exact Src.part q hx hq (by omega) (by omega) h4
end
section
variable {P : Program} {H : List Hp} {T : List AV} {o : Oper} {ops : Array Oper} {Q : Post}
/-- A guarded operation that is not wanted: a later guard may look at its slot. -/
theorem awpL_gfb {rest : List Oper} {j : Nat} {want : Bool} {t : Nat} {T' : List AV} (hg : o.guard = some (j, want)) (hd : (ops[j]?).bind (·.dst) = some t) (hp : gdc want (T.getD t .top) = some false) (hT : putT T o.dst (.g false (.x (.bool false))) = T') (hK : awpL P ops Q rest T' H) : awpL P ops Q (o :: rest) T H :=
  awpL_g false (.x (.bool false)) hg hd hp (fun h => by cases h) (hT ▸ hK)
theorem dr_gfb {rest : List Oper} {fin : List AV → Prop} {j : Nat} {want : Bool} {t : Nat} {T' : List AV} (hg : o.guard = some (j, want)) (hd : (ops[j]?).bind (·.dst) = some t) (hp : gdc want (T.getD t .top) = some false) (hT : putT T o.dst (.g false (.x (.bool false))) = T') (hK : dr P H ops rest T' fin) : dr P H ops (o :: rest) T fin :=
  dr_g false (.x (.bool false)) hg hd hp (fun h => by cases h) (hT ▸ hK)
end
/-- A part of a list of bytes. -/
theorem u8a_part (l : List UInt8) (o m : Nat) : ((u8a l).drop o).take m = u8a ((l.drop o).take m) := by simp [u8a, u8s]
end Go.Proofs.YtfaljkenmbbbaaaDoor
