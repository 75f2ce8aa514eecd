import Derived.Test.YtfaljkenmbbbaaaDoorW20
import Derived.Test.YtfaljkenmbbbaaaDoorW6
import Derived.Test.YtfaljkenmbbbaaaDoorW7
import Derived.Test.YtfaljkenmbbbaaaDoorW15
import Derived.Test.YtfaljkenmbbbaaaDoorW17
import Derived.Test.YtfaljkenmbbbaaaDoorW0
import Derived.ProofKit
import Derived.OpenShut
import Derived.ShutString
import Derived.ChangeOld
import Derived.Lib.SmallJoins
import Derived.SizedLaws
import Derived.Test.YtfaljkenmbbbaaaDoorW5
import Derived.Test.YtfaljkenmbbbaaaDoorRows
import Derived.ChangeSame
import Derived.ChangeVars
import Derived.JoinedOf
import Derived.LaidLaws
import Derived.LaidHandle
import Derived.Stop.Joined
import Derived.RowKit
import Derived.Test.YtfaljkenmbbbaaaDoorW16
/- The program's lexer: All. -/
namespace Go.Proofs.YtfaljkenmbbbaaaDoor
open Go.RowKit
set_option linter.unusedSimpArgs false
set_option linter.unusedVariables false
set_option maxRecDepth 100000 in
set_option maxHeartbeats 8000000 in
theorem lall_long (l : List UInt8) (hl : l.length ≤ 1000000) (h8 : 8192 < l.length) : Spec Tryd.prog 13 [] [.x (.string (bs l))] (fun r H' => r = .tup [.sq 0 [], .x (.agg #[.int .i64 1, .int .i64 0, .int .i64 0])] ∧ H' = []) := by
  refine Spec_of Tryd.func13 rfl ?_
  simp only [Tryd.ntmps13, List.length_cons, List.length_nil, List.replicate_succ, List.replicate_zero, List.cons_append, List.nil_append, Nat.reduceAdd, Nat.reduceSub]
  (repeat' (first | with_reducible (first | refine awp_seq ?_ | refine awp_region ?_ | refine awp_ret ?_ | refine awpL_nil ?_ | refine thenA_normal ?_ | refine thenA_ret ?_) | (refine awp_cond _ rfl (fun h => ?_) (fun h => ?_) <;> ((try (simp only [whn] at h)); first | (exfalso; omega; done) | skip)) | ((apply awpL_evl2 rfl); (case h => ((try (intro (hp : (_ : Bool) = true); ((try simp only [Bool.and_eq_true, Bool.not_eq_true', Bool.not_eq_true] at hp); (try simp only [hp, wte]); (try simp only [whn] at hp)))); (first | (apply Evl_k 0 rfl; (first | exact Evl_mv _ rfl | exact Evl_as _ rfl)) | (apply Evl_k 10 rfl; (exact Evl_build _ _ _ _ _ rfl HPl.out (by first | rfl | fail) rfl)) | (apply Evl_x; (case hs => (intro _ _ h; cases h)); (case hx => rfl); (case hrun => (intro w; simp [wtb, AV.val, go_sem]; (try go_bits); rfl)))))); (case hT => ((try simp only [wtn, List.append_eq, List.foldl_cons, List.foldl_nil, List.map_cons, List.map_nil, Nat.reduceAdd, Nat.reduceMul, Nat.reduceSub, ↓reduceIte, Nat.reduceEqDiff]); rfl))) | (refine awpL_cons rfl ?_; ((first | (refine Stp_k 14 rfl ?_; ((refine Stp_alloc _ _ rfl HZero.out rfl (fun b => ?_)))) | (refine Stp_k 16 rfl ?_; ((refine Stp_store _ _ _ _ _ _ _ rfl rfl FBox.out HSize.out (by first | rfl | fail) (by first | exact Nat.le_of_ble_eq_true rfl | fail) ?_)))); apply awpL_cong; (case hT => ((try simp only [wtn, List.append_eq, List.foldl_cons, List.foldl_nil, List.map_cons, List.map_nil, Nat.reduceAdd, Nat.reduceMul, Nat.reduceSub, ↓reduceIte, Nat.reduceEqDiff]); rfl)); (case hH => ((try simp only [wtn, List.append_eq, List.foldl_cons, List.foldl_nil, List.map_cons, List.map_nil, Nat.reduceAdd, Nat.reduceMul, Nat.reduceSub, ↓reduceIte, Nat.reduceEqDiff]); rfl)))) | fail))
  refine endA_ret _ _ (Res2 rfl (RV.tmp _) (RV.cell 0 rfl rfl HAgg.out (by simp) (by simp)) (Weak.mk' [_] [] (List.Perm.refl _) VwHs.nil (VwL.cons Vw.nil (VwL.refl _ _)))) ?_
  exact ⟨rfl, rfl⟩
set_option maxRecDepth 100000 in
set_option maxHeartbeats 8000000 in
theorem lall_ok (l : List UInt8) (h8 : l.length ≤ 8192) (ts : List Tok) (hs : Spec Tryd.prog 22 [] [.x (.string (bs l))] (fun q H' => q = .tup [.sq ts.length (ta ts), .x .nilIface] ∧ H' = [])) : Spec Tryd.prog 13 [] [.x (.string (bs l))] (fun r H' => r = .tup [.sq ts.length (ta ts), .x (.agg #[.int .i64 0, .int .i64 0, .int .i64 0])] ∧ H' = []) := by
  refine Spec_of Tryd.func13 rfl ?_
  simp only [Tryd.ntmps13, List.length_cons, List.length_nil, List.replicate_succ, List.replicate_zero, List.cons_append, List.nil_append, Nat.reduceAdd, Nat.reduceSub]
  (repeat' (first | with_reducible (first | refine awp_seq ?_ | refine awp_region ?_ | refine awp_ret ?_ | refine awp_skip ?_ | refine awpL_nil ?_ | refine thenA_normal ?_ | refine thenA_ret ?_) | (refine awp_cond _ rfl (fun h => ?_) (fun h => ?_) <;> first | (exact absurd h (by decide)) | ((try (simp only [whn] at h)); first | (exfalso; omega; done) | skip)) | ((apply awpL_evl2 rfl); (case h => ((try (intro (hp : (_ : Bool) = true); ((try simp only [Bool.and_eq_true, Bool.not_eq_true', Bool.not_eq_true] at hp); (try simp only [hp, wte]); (try simp only [whn] at hp)))); (first | (apply Evl_k 0 rfl; (first | exact Evl_mv _ rfl | exact Evl_as _ rfl)) | (apply Evl_k 2 rfl; (exact Evl_extract _ _ _ _ rfl rfl rfl)) | (apply Evl_k 10 rfl; (exact Evl_build _ _ _ _ _ rfl HPl.out (by first | rfl | fail) rfl)) | (apply Evl_k 11 rfl; (exact Evl_call 22 Tryd.f22 _ _ rfl rfl Tryd.func22 (by decide) rfl (VwL.refl _ _) (hs))) | (apply Evl_x; (case hs => (intro _ _ h; cases h)); (case hx => rfl); (case hrun => (intro w; simp [wtb, AV.val, go_sem]; (try go_bits); rfl)))))); (case hT => ((try simp only [wtn, List.append_eq, List.foldl_cons, List.foldl_nil, List.map_cons, List.map_nil, Nat.reduceAdd, Nat.reduceMul, Nat.reduceSub, ↓reduceIte, Nat.reduceEqDiff]); rfl))) | (refine awpL_cons rfl ?_; ((first | (refine Stp_k 14 rfl ?_; ((refine Stp_alloc _ _ rfl HZero.out rfl (fun b => ?_)))) | (refine Stp_k 16 rfl ?_; ((refine Stp_store _ _ _ _ _ _ _ rfl rfl FBox.out HSize.out (by first | rfl | fail) (by first | exact Nat.le_of_ble_eq_true rfl | fail) ?_)))); apply awpL_cong; (case hT => ((try simp only [wtn, List.append_eq, List.foldl_cons, List.foldl_nil, List.map_cons, List.map_nil, Nat.reduceAdd, Nat.reduceMul, Nat.reduceSub, ↓reduceIte, Nat.reduceEqDiff]); rfl)); (case hH => ((try simp only [wtn, List.append_eq, List.foldl_cons, List.foldl_nil, List.map_cons, List.map_nil, Nat.reduceAdd, Nat.reduceMul, Nat.reduceSub, ↓reduceIte, Nat.reduceEqDiff]); rfl)))) | fail))
  refine endA_ret _ _ (Res2 rfl (RV.tmp _) (RV.cell 0 rfl rfl HAgg.out (by simp) (by simp)) (Weak.mk' [_] [] (List.Perm.refl _) VwHs.nil (VwL.refl _ _))) ?_
  exact ⟨rfl, rfl⟩
set_option maxRecDepth 100000 in
set_option maxHeartbeats 8000000 in
theorem lall_bad (l : List UInt8) (h8 : l.length ≤ 8192) (c : Int) (x y : Int) (hs : Spec Tryd.prog 22 [] [.x (.string (bs l))] (fun q H' => ∃ b, q = .tup [.x (.slice none 0 0), .x (.iface 62 (.pointer (some ⟨b, 0, none⟩)))] ∧ H' = [.box b [.x (.int .i64 x), .x (.int .i64 y), .x (.iface 59 (.int .i64 c))]])) : Spec Tryd.prog 13 [] [.x (.string (bs l))] (fun r H' => r = .tup [.sq 0 [], .x (.agg #[.int .i64 c, .int .i64 x, .int .i64 y])] ∧ H' = []) := by
  refine Spec_of Tryd.func13 rfl ?_
  simp only [Tryd.ntmps13, List.length_cons, List.length_nil, List.replicate_succ, List.replicate_zero, List.cons_append, List.nil_append, Nat.reduceAdd, Nat.reduceSub]
  (repeat' (first | with_reducible (first | refine awp_seq ?_ | refine awp_region ?_ | refine awp_skip ?_ | refine awpL_nil ?_ | refine thenA_normal ?_) | (refine awp_cond _ rfl (fun h => ?_) (fun h => ?_) <;> first | (exact absurd h (by decide)) | ((try (simp only [whn] at h)); first | (exfalso; omega; done) | skip)) | ((apply awpL_evl2 rfl); (case h => ((try (intro (hp : (_ : Bool) = true); ((try simp only [Bool.and_eq_true, Bool.not_eq_true', Bool.not_eq_true] at hp); (try simp only [hp, wte]); (try simp only [whn] at hp)))); (first | (apply Evl_k 0 rfl; (first | exact Evl_mv _ rfl | exact Evl_as _ rfl)) | (apply Evl_k 2 rfl; (exact Evl_extract _ _ _ _ rfl rfl rfl)) | (apply Evl_k 5 rfl; (exact Evl_field_x _ _ _ _ _ _ rfl rfl HFld.out)) | (apply Evl_k 6 rfl; (exact Evl_load _ _ _ _ _ _ _ _ rfl rfl FBox.out HAgg.out (by first | exact Nat.le_of_ble_eq_true rfl | fail) (by first | exact Nat.le_of_ble_eq_true rfl | fail))) | (apply Evl_x; (case hs => (intro _ _ h; cases h)); (case hx => rfl); (case hrun => (intro w; simp [wtb, AV.val, go_sem]; (try go_bits); rfl)))))); (case hT => ((try simp only [wtn, List.append_eq, List.foldl_cons, List.foldl_nil, List.map_cons, List.map_nil, Nat.reduceAdd, Nat.reduceMul, Nat.reduceSub, ↓reduceIte, Nat.reduceEqDiff]); rfl))) | (refine awpL_cons rfl ?_; ((first | (refine Stp_k 11 rfl ?_; (first | (refine Stp_call 22 Tryd.f22 ([]) _ _ _ rfl rfl Tryd.func22 (by decide) rfl (List.Perm.refl _) (VwL.refl _ _) (hs) ?_; rintro _ _ ⟨b2, rfl, rfl⟩) | (refine Stp_call 23 Tryd.f23 [_, _] [_, _] _ _ rfl rfl Tryd.func23 (by decide) rfl (List.Perm.cons _ (List.Perm.swap _ _ _)) (VwL.refl _ _) (as_code_s _ _ _ _ _ _ []) ?_; rintro _ _ ⟨rfl, rfl⟩) | (refine Stp_call 23 Tryd.f23 [_] _ _ _ rfl rfl Tryd.func23 (by decide) rfl (List.Perm.refl _) (VwL.refl _ _) (as_place_s _ _ _ []) ?_; rintro _ _ ⟨rfl, rfl⟩))) | (refine Stp_k 14 rfl ?_; ((refine Stp_alloc _ _ rfl HZero.out rfl (fun b => ?_)))) | (refine Stp_k 16 rfl ?_; ((refine Stp_store _ _ _ _ _ _ _ rfl rfl FBox.out HSize.out (by first | rfl | fail) (by first | exact Nat.le_of_ble_eq_true rfl | fail) ?_)))); apply awpL_cong; (case hT => ((try simp only [wtn, List.append_eq, List.foldl_cons, List.foldl_nil, List.map_cons, List.map_nil, Nat.reduceAdd, Nat.reduceMul, Nat.reduceSub, ↓reduceIte, Nat.reduceEqDiff]); rfl)); (case hH => ((try simp only [wtn, List.append_eq, List.foldl_cons, List.foldl_nil, List.map_cons, List.map_nil, Nat.reduceAdd, Nat.reduceMul, Nat.reduceSub, ↓reduceIte, Nat.reduceEqDiff]); rfl)))) | fail))
  refine awpP_drawn mixed [] [_, _] _ (List.Perm.cons _ (List.Perm.swap _ _ _)) ?_
  (first | refine awpP_load 0 rfl rfl (by kernel_rfl) (by intro c T H hp; simp [thenA, inBlockA, jumpA, endA] at hp) _ _ _ _ _ _ _ _ rfl rfl FBox.out HAgg.out (by first | exact Nat.le_of_ble_eq_true rfl | fail) (by first | exact Nat.le_of_ble_eq_true rfl | fail) ?_ | fail); (apply awpP_cong; (case hT => ((try simp only [wtn, List.append_eq, List.foldl_cons, List.foldl_nil, List.map_cons, List.map_nil, Nat.reduceAdd, Nat.reduceMul, Nat.reduceSub, ↓reduceIte, Nat.reduceEqDiff]); rfl)); (case hH => rfl)); (first | (apply awpP_take 1 rfl rfl (by kernel_rfl) (by intro c T H hp; simp [thenA, inBlockA, jumpA, endA] at hp); (case h => (exact WInd_nil _ _ _ rfl rfl))) | fail); (apply awpP_cong; (case hT => ((try simp only [wtn, List.append_eq, List.foldl_cons, List.foldl_nil, List.map_cons, List.map_nil, Nat.reduceAdd, Nat.reduceMul, Nat.reduceSub, ↓reduceIte, Nat.reduceEqDiff]); rfl)); (case hH => rfl)); (first | (apply awpP_take 2 rfl rfl (by kernel_rfl) (by intro c T H hp; simp [thenA, inBlockA, jumpA, endA] at hp); (case h => (exact WInd_field_x _ _ _ _ _ _ rfl rfl HFld.out))) | fail); (apply awpP_cong; (case hT => ((try simp only [wtn, List.append_eq, List.foldl_cons, List.foldl_nil, List.map_cons, List.map_nil, Nat.reduceAdd, Nat.reduceMul, Nat.reduceSub, ↓reduceIte, Nat.reduceEqDiff]); rfl)); (case hH => rfl)); (first | refine awpP_load 3 rfl rfl (by kernel_rfl) (by intro c T H hp; simp [thenA, inBlockA, jumpA, endA] at hp) _ _ _ _ _ _ _ _ rfl rfl FBox.out HAgg.out (by first | exact Nat.le_of_ble_eq_true rfl | fail) (by first | exact Nat.le_of_ble_eq_true rfl | fail) ?_ | fail); (apply awpP_cong; (case hT => ((try simp only [wtn, List.append_eq, List.foldl_cons, List.foldl_nil, List.map_cons, List.map_nil, Nat.reduceAdd, Nat.reduceMul, Nat.reduceSub, ↓reduceIte, Nat.reduceEqDiff]); rfl)); (case hH => rfl)); (first | refine awpP_load 4 rfl rfl (by kernel_rfl) (by intro c T H hp; simp [thenA, inBlockA, jumpA, endA] at hp) _ _ _ _ _ _ _ _ rfl rfl FBox.out HAgg.out (by first | exact Nat.le_of_ble_eq_true rfl | fail) (by first | exact Nat.le_of_ble_eq_true rfl | fail) ?_ | fail); (apply awpP_cong; (case hT => ((try simp only [wtn, List.append_eq, List.foldl_cons, List.foldl_nil, List.map_cons, List.map_nil, Nat.reduceAdd, Nat.reduceMul, Nat.reduceSub, ↓reduceIte, Nat.reduceEqDiff]); rfl)); (case hH => rfl)); (first | (apply awpP_take 5 rfl rfl (by kernel_rfl) (by intro c T H hp; simp [thenA, inBlockA, jumpA, endA] at hp); (case h => (exact WInd_nil _ _ _ rfl rfl))) | fail); (apply awpP_cong; (case hT => ((try simp only [wtn, List.append_eq, List.foldl_cons, List.foldl_nil, List.map_cons, List.map_nil, Nat.reduceAdd, Nat.reduceMul, Nat.reduceSub, ↓reduceIte, Nat.reduceEqDiff]); rfl)); (case hH => rfl)); (first | (apply awpP_take 6 rfl rfl (by kernel_rfl) (by intro c T H hp; simp [thenA, inBlockA, jumpA, endA] at hp); (case h => (exact WInd_field_x _ _ _ _ _ _ rfl rfl HFld.out))) | fail); (apply awpP_cong; (case hT => ((try simp only [wtn, List.append_eq, List.foldl_cons, List.foldl_nil, List.map_cons, List.map_nil, Nat.reduceAdd, Nat.reduceMul, Nat.reduceSub, ↓reduceIte, Nat.reduceEqDiff]); rfl)); (case hH => rfl)); (first | refine awpP_load 7 rfl rfl (by kernel_rfl) (by intro c T H hp; simp [thenA, inBlockA, jumpA, endA] at hp) _ _ _ _ _ _ _ _ rfl rfl FBox.out HAgg.out (by first | exact Nat.le_of_ble_eq_true rfl | fail) (by first | exact Nat.le_of_ble_eq_true rfl | fail) ?_ | fail); (apply awpP_cong; (case hT => ((try simp only [wtn, List.append_eq, List.foldl_cons, List.foldl_nil, List.map_cons, List.map_nil, Nat.reduceAdd, Nat.reduceMul, Nat.reduceSub, ↓reduceIte, Nat.reduceEqDiff]); rfl)); (case hH => rfl)); (first | (apply awpP_take 8 rfl rfl (by kernel_rfl) (by intro c T H hp; simp [thenA, inBlockA, jumpA, endA] at hp); (case h => (exact WInd_field_x _ _ _ _ _ _ rfl rfl HFld.out))) | fail); (apply awpP_cong; (case hT => ((try simp only [wtn, List.append_eq, List.foldl_cons, List.foldl_nil, List.map_cons, List.map_nil, Nat.reduceAdd, Nat.reduceMul, Nat.reduceSub, ↓reduceIte, Nat.reduceEqDiff]); rfl)); (case hH => rfl))
  (repeat ((first | refine awpP_1 9 (by decide +kernel) rfl rfl ?_ | refine awpP_1 10 (by decide +kernel) rfl rfl ?_ | refine awpP_1 11 (by decide +kernel) rfl rfl ?_ | fail); (first | (apply Stp_evl; (case h => ((apply Evl_k 5 rfl; (exact Evl_field_x _ _ _ _ _ _ rfl rfl HFld.out)))); (apply awpP_cong; (case hT => ((try simp only [wtn, List.append_eq, List.foldl_cons, List.foldl_nil, List.map_cons, List.map_nil, Nat.reduceAdd, Nat.reduceMul, Nat.reduceSub, ↓reduceIte, Nat.reduceEqDiff]); rfl)); (case hH => rfl))) | (((refine Stp_k 16 rfl ?_; ((refine Stp_store _ _ _ _ _ _ _ rfl rfl FBox.out HSize.out (by first | rfl | fail) (by first | exact Nat.le_of_ble_eq_true rfl | fail) ?_)))); apply awpP_cong; (case hT => ((try simp only [wtn, List.append_eq, List.foldl_cons, List.foldl_nil, List.map_cons, List.map_nil, Nat.reduceAdd, Nat.reduceMul, Nat.reduceSub, ↓reduceIte, Nat.reduceEqDiff]); rfl)); (case hH => ((try simp only [wtn, List.append_eq, List.foldl_cons, List.foldl_nil, List.map_cons, List.map_nil, Nat.reduceAdd, Nat.reduceMul, Nat.reduceSub, ↓reduceIte, Nat.reduceEqDiff]); rfl))) | fail)))
  refine awpP_rest (by decide +kernel) ?_
  refine awpA_cong rfl (by simp only [List.cons_append, List.nil_append]; rfl) ?_
  refine awpA_done (by decide +kernel) ?_
  (repeat' (first | with_reducible (first | refine awp_seq ?_ | refine thenA_normal ?_) | fail))
  refine awpP_drawn mixed [] [_] [_, _, _, _] (List.perm_middle (l₁ := [_, _, _])) ?_
  (first | refine awpP_load 0 rfl rfl (by kernel_rfl) (by intro c T H hp; simp [thenA, inBlockA, jumpA, endA] at hp) _ _ _ _ _ _ _ _ rfl rfl FBox.out HAgg.out (by first | exact Nat.le_of_ble_eq_true rfl | fail) (by first | exact Nat.le_of_ble_eq_true rfl | fail) ?_ | fail); (apply awpP_cong; (case hT => ((try simp only [wtn, List.append_eq, List.foldl_cons, List.foldl_nil, List.map_cons, List.map_nil, Nat.reduceAdd, Nat.reduceMul, Nat.reduceSub, ↓reduceIte, Nat.reduceEqDiff]); rfl)); (case hH => rfl)); (first | (apply awpP_take 1 rfl rfl (by kernel_rfl) (by intro c T H hp; simp [thenA, inBlockA, jumpA, endA] at hp); (case h => (exact WInd_as _ rfl))) | fail); (apply awpP_cong; (case hT => ((try simp only [wtn, List.append_eq, List.foldl_cons, List.foldl_nil, List.map_cons, List.map_nil, Nat.reduceAdd, Nat.reduceMul, Nat.reduceSub, ↓reduceIte, Nat.reduceEqDiff]); rfl)); (case hH => rfl))
  (refine awpP_1 2 (by decide +kernel) rfl rfl ?_; (first | (((refine Stp_k 16 rfl ?_; ((refine Stp_store _ _ _ _ _ _ _ rfl rfl FBox.out HSize.out (by first | rfl | fail) (by first | exact Nat.le_of_ble_eq_true rfl | fail) ?_)))); apply awpP_cong; (case hT => ((try simp only [wtn, List.append_eq, List.foldl_cons, List.foldl_nil, List.map_cons, List.map_nil, Nat.reduceAdd, Nat.reduceMul, Nat.reduceSub, ↓reduceIte, Nat.reduceEqDiff]); rfl)); (case hH => ((try simp only [wtn, List.append_eq, List.foldl_cons, List.foldl_nil, List.map_cons, List.map_nil, Nat.reduceAdd, Nat.reduceMul, Nat.reduceSub, ↓reduceIte, Nat.reduceEqDiff]); rfl))) | fail))
  refine awpP_rest (by decide +kernel) ?_
  refine awpA_cong rfl (by simp only [List.cons_append, List.nil_append]; rfl) ?_
  refine awpA_done (by decide +kernel) ?_
  (repeat' (first | with_reducible (first | refine awp_ret ?_ | refine thenA_normal ?_) | fail))
  refine endA_ret _ _ (Res2 rfl (RV.tmp _) (RV.cell 4 rfl rfl HAgg.out (by simp) (by simp)) (Weak.mk' [_, _, _, _, _] [] (List.Perm.refl _) VwHs.nil (VwL.cons Vw.nil (VwL.refl _ _)))) ?_
  exact ⟨rfl, rfl⟩
theorem lall_s (l : List UInt8) (hl : l.length ≤ 1000000) : Spec Tryd.prog 13 [] [.x (.string (bs l))] (fun r H' => r = .tup [.sq (toksOf (lex l)).length (ta (toksOf (lex l))), (fltOf (lex l)).av] ∧ H' = []) := by
  by_cases h8 : 8192 < l.length
  · have e : lex l = .error ⟨1, 0, 0⟩ := by unfold lex; rw [if_pos (by omega)]
    rw [e]
    exact lall_long l hl h8
  · have e : lex l = lexGo (1, 1) 0 l := by unfold lex; rw [if_neg (by omega)]
    have hs := scan_s l (by omega)
    rw [e]
    cases hx : lexGo (1, 1) 0 l with
    | ok ts => rw [hx] at hs; exact lall_ok l (by omega) ts hs
    | error f => rw [hx] at hs; exact lall_bad l (by omega) _ _ _ hs
end Go.Proofs.YtfaljkenmbbbaaaDoor
/- The lexer's laws: Same, sane. -/
namespace Go.Proofs.YtfaljkenmbbbaaaDoor
open Go.RowKit
set_option linter.unusedSimpArgs false
set_option linter.unusedVariables false
theorem ta_dropc (l : List Tok) (k : Nat) (h : k < l.length) : (ta l).drop (k * 4) = .x (.int .i64 l[k].kind) :: .x (.string (bs l[k].text)) :: .x (.int .i64 (l[k].line : Nat)) :: .x (.int .i64 (l[k].col : Nat)) :: ta (l.drop (k + 1)) := ta_drop l k h
set_option maxRecDepth 100000 in
set_option maxHeartbeats 8000000 in
theorem same_s (l : List Tok) (hl : l.length ≤ 100000) : Spec Tryd.prog 15 [] [.sq l.length (ta l), .sq l.length (ta l)] (fun r H' => r = .x (.bool true) ∧ H' = []) := by
  refine Spec_of Tryd.func15 rfl ?_
  simp only [Tryd.ntmps15, List.length_cons, List.length_nil, List.replicate_succ, List.replicate_zero, List.cons_append, List.nil_append, Nat.reduceAdd, Nat.reduceSub]
  (repeat' (first | with_reducible (first | refine awp_seq ?_ | refine awp_region ?_ | refine awp_block ?_ | refine awp_skip ?_ | refine awpL_nil ?_ | refine thenA_normal ?_) | (refine awp_cond _ rfl (fun h => ?_) (fun h => ?_) <;> first | (exact absurd h (by decide)) | ((try (simp only [whn] at h)); skip)) | ((apply awpL_evl2 rfl); (case h => ((try (intro (hp : (_ : Bool) = true); ((try simp only [Bool.and_eq_true, Bool.not_eq_true', Bool.not_eq_true] at hp); (try simp only [hp, wte]); (try simp only [whn] at hp)))); (first | (apply Evl_k 0 rfl; (first | exact Evl_mv _ rfl | exact Evl_as _ rfl)) | (apply Evl_k 3 rfl; (exact Evl_len _ _ _ _ _ _ HEl.out rfl rfl)) | (apply Evl_x; (case hs => (intro _ _ h; cases h)); (case hx => rfl); (case hrun => (intro w; simp [wtb, AV.val, go_sem]; (try go_bits); rfl)))))); (case hT => ((try simp only [wtn, List.append_eq, List.foldl_cons, List.foldl_nil, List.map_cons, List.map_nil, Nat.reduceAdd, Nat.reduceMul, Nat.reduceSub, ↓reduceIte, Nat.reduceEqDiff]); rfl))) | fail))
  refine awp_loopS (S := Nat) (fun q => frm 26 [(0, .sq l.length (ta l)), (1, .sq l.length (ta l)), (5, .x (.int .i64 q))]) (fun q => []) (fun q => q ≤ l.length) (fun q => l.length - q) 0 ?a (Nat.zero_le _) fun q hq => ?_
  case a => exact (Weak.mk' [] _ (List.Perm.refl _) (VwHs.refl _ _) (by (repeat' (first | exact VwL.nil | (refine VwL.cons ?_ ?_) | exact Vw.refl _ | exact Vw.top _ | fail))))
  simp only [frm, List.replicate_succ, List.replicate_zero, List.foldl_cons, List.foldl_nil, List.set_cons_zero, List.set_cons_succ]
  by_cases hk : q < l.length
  · (repeat' (first | with_reducible (first | refine awp_seq ?_ | refine awp_region ?_ | refine awp_block ?_ | refine awp_skip ?_ | refine awpL_nil ?_ | refine dr_nil ?_ | refine thenA_normal ?_ | refine inBlockA_normal ?_) | (with_reducible refine awp_drawnQ mixed ?_ ?_; (decide +kernel)) | (refine awp_cond _ rfl (fun h => ?_) (fun h => ?_) <;> first | (exact absurd h (by decide)) | ((try (simp only [whn] at h)); first | (exfalso; omega; done) | skip)) | ((first | apply awpL_evl2 rfl | apply dr_evl2 rfl); (case h => ((try (intro (hp : (_ : Bool) = true); ((try simp only [Bool.and_eq_true, Bool.not_eq_true', Bool.not_eq_true] at hp); (try simp only [hp, wte]); (try simp only [whn] at hp)))); (first | (apply Evl_k 0 rfl; (first | exact Evl_mv _ rfl | exact Evl_as _ rfl)) | (apply Evl_k 3 rfl; (exact Evl_len _ _ _ _ _ _ HEl.out rfl rfl)) | (apply Evl_k 6 rfl; (exact Evl_load_at _ _ _ _ _ rfl rfl HAgg.out (by first | exact Nat.le_of_ble_eq_true rfl | fail) (by first | exact Nat.le_of_ble_eq_true rfl | fail))) | (apply Evl_k 7 rfl; (exact Evl_index_sq _ _ _ _ _ _ _ _ _ _ rfl rfl rfl HEl.out rfl (by first | omega | fail) (by simp; first | omega | fail))) | (apply Evl_x; (case hs => (intro _ _ h; cases h)); (case hx => rfl); (case hrun => (intro w; simp [wtb, AV.val, go_sem]; (try go_bits); rfl)))))); (case hT => ((try simp (disch := assumption) only [wtn, ta_dropc, List.append_eq, List.foldl_cons, List.foldl_nil, List.map_cons, List.map_nil, Nat.reduceAdd, Nat.reduceMul, Nat.reduceSub, ↓reduceIte, Nat.reduceEqDiff]); rfl))) | fail))
    refine ⟨q + 1, by omega, by omega, ?_⟩
    exact (Weak.mk' [] _ (List.Perm.refl _) (VwHs.refl _ _) (by (repeat' (first | exact VwL.nil | (refine VwL.cons ?_ ?_) | exact Vw.refl _ | exact Vw.top _ | fail))))
  · (repeat' (first | with_reducible (first | refine awp_seq ?_ | refine awp_region ?_ | refine awp_ret ?_ | refine awp_exit ?_ | refine awpL_nil ?_ | refine thenA_normal ?_ | refine thenA_exit ?_ | refine inBlockA_eq ?_) | (refine awp_cond _ rfl (fun h => ?_) (fun h => ?_) <;> ((try (simp only [whn] at h)); first | (exfalso; omega; done) | skip)) | ((apply awpL_evl2 rfl); (case h => ((try (intro (hp : (_ : Bool) = true); ((try simp only [Bool.and_eq_true, Bool.not_eq_true', Bool.not_eq_true] at hp); (try simp only [hp, wte]); (try simp only [whn] at hp)))); (first | (apply Evl_k 0 rfl; (first | exact Evl_mv _ rfl | exact Evl_as _ rfl)) | (apply Evl_k 3 rfl; (exact Evl_len _ _ _ _ _ _ HEl.out rfl rfl)) | (apply Evl_x; (case hs => (intro _ _ h; cases h)); (case hx => rfl); (case hrun => (intro w; simp [wtb, AV.val, go_sem]; (try go_bits); rfl)))))); (case hT => ((try simp only [wtn, List.append_eq, List.foldl_cons, List.foldl_nil, List.map_cons, List.map_nil, Nat.reduceAdd, Nat.reduceMul, Nat.reduceSub, ↓reduceIte, Nat.reduceEqDiff]); rfl))) | fail))
    refine endA_ret _ _ (Res1 rfl (RV.tmp _) (Weak.mk' [] _ (List.Perm.refl _) (VwHs.refl _ _) (VwL.refl _ _))) ?_
    exact ⟨rfl, rfl⟩
/-- The texts of the chapter's examples. -/
def sane1 : List UInt8 := [106, 111, 98, 32, 97, 32, 123, 125]
def sane2 : List UInt8 := [34, 120]
def saneT : List Tok := [⟨1, [106, 111, 98], 1, 1⟩, ⟨1, [97], 1, 5⟩, ⟨5, [123], 1, 7⟩, ⟨5, [125], 1, 8⟩, ⟨6, [], 1, 9⟩]
theorem lex_sane1 : lex sane1 = .ok saneT := by
  unfold lex sane1 saneT
  rw [if_neg (by decide)]
  rw [lexGo_one (1, 1) 0 _ 106 [111, 98, 32, 97, 32, 123, 125] 1 [106, 111, 98] 3 (by rw [skp_no _ _ (by decide) (by decide)]; rfl) rfl (by decide) (by decide), skp_no _ _ (by decide) (by decide)]
  rw [show List.drop 3 [(106 : UInt8), 111, 98, 32, 97, 32, 123, 125] = [32, 97, 32, 123, 125] from rfl]
  rw [lexGo_one _ _ [32, 97, 32, 123, 125] 97 [32, 123, 125] 1 [97] 1 (by rw [skp_blank _ _ (by decide), skp_no _ _ (by decide) (by decide)]; rfl) rfl (by decide) (by decide), skp_blank 32 _ (by decide), skp_no 97 _ (by decide) (by decide)]
  rw [show List.drop 1 [(97 : UInt8), 32, 123, 125] = [32, 123, 125] from rfl]
  rw [lexGo_one _ _ [32, 123, 125] 123 [125] 5 [123] 1 (by rw [skp_blank _ _ (by decide), skp_no _ _ (by decide) (by decide)]; rfl) rfl (by decide) (by decide), skp_blank 32 _ (by decide), skp_no 123 _ (by decide) (by decide)]
  rw [show List.drop 1 [(123 : UInt8), 125] = [125] from rfl]
  rw [lexGo_one _ _ [125] 125 [] 5 [125] 1 (by rw [skp_no _ _ (by decide) (by decide)]; rfl) rfl (by decide) (by decide), skp_no 125 _ (by decide) (by decide)]
  rw [show List.drop 1 [(125 : UInt8)] = [] from rfl]
  rw [lexGo_end _ _ [] (by rw [skp_nil]; rfl)]
  rfl
theorem lex_sane2 : lex sane2 = .error ⟨51, 1, 1⟩ := by
  unfold lex sane2
  rw [if_neg (by decide)]
  have hq : quo [120] = none := by
    rw [quo_part 120 [] 120 1 (by decide) rfl]
    rw [show List.drop 1 [(120 : UInt8)] = [] from rfl, quo_nil]; rfl
  rw [lexGo_bad (1, 1) 0 _ 34 [120] 51 (by rw [skp_no _ _ (by decide) (by decide)]; rfl) (by rw [one_str 34 [120] (by decide) (by decide) (by decide), hq]), skp_no _ _ (by decide) (by decide)]
  rfl
theorem lall_sane1 : Spec Tryd.prog 13 [] [.x (.string (bs sane1))] (fun r H' => r = .tup [.sq 5 (ta saneT), .x (.agg #[.int .i64 0, .int .i64 0, .int .i64 0])] ∧ H' = []) := by
  have h := lall_s sane1 (by decide)
  rw [lex_sane1] at h
  exact h
theorem lall_sane2 : Spec Tryd.prog 13 [] [.x (.string (bs sane2))] (fun r H' => r = .tup [.sq 0 [], .x (.agg #[.int .i64 51, .int .i64 1, .int .i64 1])] ∧ H' = []) := by
  have h := lall_s sane2 (by decide)
  rw [lex_sane2] at h
  exact h
theorem ta_saneT : ta saneT = [.x (.int .i64 1), .x (.string (bs [106, 111, 98])), .x (.int .i64 1), .x (.int .i64 1), .x (.int .i64 1), .x (.string (bs [97])), .x (.int .i64 1), .x (.int .i64 5), .x (.int .i64 5), .x (.string (bs [123])), .x (.int .i64 1), .x (.int .i64 7), .x (.int .i64 5), .x (.string (bs [125])), .x (.int .i64 1), .x (.int .i64 8), .x (.int .i64 6), .x (.string (bs [])), .x (.int .i64 1), .x (.int .i64 9)] := rfl
set_option maxRecDepth 100000 in
set_option maxHeartbeats 8000000 in
theorem sane_s : Spec Tryd.prog 9 [] [] (fun r H' => r = .x (.bool true) ∧ H' = []) := by
  have h1 := lall_sane1
  have h2 := lall_sane2
  rw [ta_saneT] at h1
  refine Spec_of Tryd.func9 rfl ?_
  simp only [Tryd.ntmps9, List.length_cons, List.length_nil, List.replicate_succ, List.replicate_zero, List.cons_append, List.nil_append, Nat.reduceAdd, Nat.reduceSub]
  (repeat' (first | with_reducible (first | refine awp_seq ?_ | refine awp_region ?_ | refine awp_ret ?_ | refine awpL_nil ?_ | refine thenA_normal ?_) | ((first | apply awpL_evl2 rfl | apply awpL_g2 _ _ rfl rfl rfl); (case h => ((try (intro (hp : (_ : Bool) = true); ((try simp only [Bool.and_eq_true, Bool.not_eq_true', Bool.not_eq_true] at hp); (try simp only [hp, wte]); (try simp only [whn] at hp)))); (first | (apply Evl_k 0 rfl; (first | exact Evl_mv _ rfl | exact Evl_as _ rfl)) | (apply Evl_k 1 rfl; (exact Evl_pickt _ _ _ rfl rfl)) | (apply Evl_k 2 rfl; (exact Evl_extract _ _ _ _ rfl rfl rfl)) | (apply Evl_k 3 rfl; (exact Evl_len _ _ _ _ _ _ HEl.out rfl rfl)) | (apply Evl_k 5 rfl; (exact Evl_field_at _ _ _ _ _ rfl rfl HFld.out)) | (apply Evl_k 6 rfl; (first | exact Evl_load_at _ _ _ _ _ rfl rfl HAgg.out (by first | exact Nat.le_of_ble_eq_true rfl | fail) (by first | exact Nat.le_of_ble_eq_true rfl | fail) | exact Evl_load _ _ _ _ _ _ _ _ rfl rfl FBox.out HAgg.out (by first | exact Nat.le_of_ble_eq_true rfl | fail) (by first | exact Nat.le_of_ble_eq_true rfl | fail))) | (apply Evl_k 7 rfl; (first | exact Evl_index_sq _ _ _ _ _ _ _ _ 1 _ rfl rfl rfl HEl.out rfl (by omega) (by simp; first | done | fail) | exact Evl_index_sq _ _ _ _ _ _ _ _ 4 _ rfl rfl rfl HEl.out rfl (by omega) (by simp; first | done | fail))) | (apply Evl_k 10 rfl; (exact Evl_build _ _ _ _ _ rfl HPl.out (by first | rfl | fail) rfl)) | (apply Evl_k 11 rfl; (first | exact Evl_call 13 Tryd.f13 _ _ rfl rfl Tryd.func13 (by decide) rfl (VwL.refl _ _) (h1) | exact Evl_call 13 Tryd.f13 _ _ rfl rfl Tryd.func13 (by decide) rfl (VwL.refl _ _) (h2))) | (apply Evl_x; (case hs => (intro _ _ h; cases h)); (case hx => rfl); (case hrun => (intro w; simp [wtb, AV.val, go_sem]; (try go_bits); rfl)))))); (case hT => ((try simp only [wtn, List.append_eq, List.foldl_cons, List.foldl_nil, List.map_cons, List.map_nil, Nat.reduceAdd, Nat.reduceMul, Nat.reduceSub, ↓reduceIte, Nat.reduceEqDiff]); rfl))) | (refine awpL_cons rfl ?_; ((first | (refine Stp_k 14 rfl ?_; ((refine Stp_alloc _ _ rfl HZero.out rfl (fun b => ?_)))) | (refine Stp_k 16 rfl ?_; ((refine Stp_store _ _ _ _ _ _ _ rfl rfl FBox.out HSize.out (by first | rfl | fail) (by first | exact Nat.le_of_ble_eq_true rfl | fail) ?_)))); apply awpL_cong; (case hT => ((try simp only [wtn, List.append_eq, List.foldl_cons, List.foldl_nil, List.map_cons, List.map_nil, Nat.reduceAdd, Nat.reduceMul, Nat.reduceSub, ↓reduceIte, Nat.reduceEqDiff]); rfl)); (case hH => ((try simp only [wtn, List.append_eq, List.foldl_cons, List.foldl_nil, List.map_cons, List.map_nil, Nat.reduceAdd, Nat.reduceMul, Nat.reduceSub, ↓reduceIte, Nat.reduceEqDiff]); rfl)))) | fail))
  refine endA_ret _ _ (Res1 rfl (RV.tmp _) (Weak.mk' [_, _] [] (List.Perm.refl _) (VwHs.refl _ _) (by first | exact VwL.refl _ _ | fail))) ?_
  exact ⟨rfl, rfl⟩
end Go.Proofs.YtfaljkenmbbbaaaDoor
/- LexerParts: the walk. -/
namespace Go.Proofs.YtfaljkenmbbbaaaDoor
open Go.RowKit
set_option linter.unusedSimpArgs false
set_option linter.unusedVariables false
/-- The texts of LexerParts. -/
def partsL (raw : List UInt8) (c : UInt8) : List (List UInt8) := [[34] ++ raw ++ [34], [47] ++ raw ++ [47], [34, 92] ++ raw ++ [34], [47, 92] ++ raw ++ [47, 32, 97], [34, 92, 120] ++ [c, 102] ++ [34], [48] ++ raw, [49, 50, 51, 52, 53, 54, 55, 56, 57, 48, 49, 50, 51, 52, 53, 54, 55, 56] ++ [c]]
theorem partsL_len (raw : List UInt8) (c : UInt8) (h : raw.length ≤ 200) : ∀ x ∈ partsL raw c, x.length ≤ 1000 := by
  intro x hx
  simp only [partsL, List.mem_cons, List.mem_nil_iff, or_false] at hx
  rcases hx with rfl | rfl | rfl | rfl | rfl | rfl | rfl <;> simp <;> omega
set_option maxRecDepth 100000 in
set_option maxHeartbeats 8000000 in
theorem parts_s (raw : List UInt8) (n : Int) (c : UInt8) : Spec Tryd.prog 4 [] [.x (.string (bs raw)), .x (.int .u64 n), .x (.int .u8 (c.toNat : Nat))] (fun r H' => r = .x (.bool true) ∧ H' = []) := by
  refine Spec_of Tryd.func4 rfl ?_
  simp only [Tryd.ntmps4, List.length_cons, List.length_nil, List.replicate_succ, List.replicate_zero, List.cons_append, List.nil_append, Nat.reduceAdd, Nat.reduceSub]
  (repeat' (first | with_reducible (first | refine awp_seq ?_ | refine awp_region ?_ | refine awp_block ?_ | refine awp_ret ?_ | refine awp_skip ?_ | refine awpL_nil ?_ | refine thenA_normal ?_ | refine thenA_ret ?_) | (refine awp_cond _ rfl (fun h => ?_) (fun h => ?_) <;> first | (exact absurd h (by decide)) | ((try (simp only [whn] at h)); skip)) | ((apply awpL_evl2 rfl); (case h => ((try (intro (hp : (_ : Bool) = true); ((try simp only [Bool.and_eq_true, Bool.not_eq_true', Bool.not_eq_true] at hp); (try simp only [hp, wte]); (try simp only [whn] at hp)))); (first | (apply Evl_k 0 rfl; (first | exact Evl_mv _ rfl | exact Evl_as _ rfl)) | (apply Evl_k 3 rfl; (exact Evl_len _ _ _ _ _ _ HEl.out rfl rfl)) | (apply Evl_k 11 rfl; (exact Evl_call 9 Tryd.f9 _ _ rfl rfl Tryd.func9 (by decide) rfl (VwL.refl _ _) (sane_s))) | (apply Evl_k 12 rfl; (first | exact Evl_concat _ _ [34] _ rfl rfl rfl (by simp; omega) | exact Evl_concat _ _ [47] _ rfl rfl rfl (by simp; omega) | exact Evl_concat _ _ [34, 92] _ rfl rfl rfl (by simp; omega) | exact Evl_concat _ _ [47, 92] _ rfl rfl rfl (by simp; omega) | exact Evl_concat _ _ [34, 92, 120] _ rfl rfl rfl (by simp; done) | exact Evl_concat _ _ [48] _ rfl rfl rfl (by simp; omega) | exact Evl_concat _ _ [49, 50, 51, 52, 53, 54, 55, 56, 57, 48, 49, 50, 51, 52, 53, 54, 55, 56] _ rfl rfl rfl (by simp; done) | exact Evl_concat _ _ _ [34] rfl rfl rfl (by simp; first | done | omega | fail) | exact Evl_concat _ _ _ [47] rfl rfl rfl (by simp; omega) | exact Evl_concat _ _ _ [47, 32, 97] rfl rfl rfl (by simp; omega) | exact Evl_string _ _ 5 _ [c, 102] rfl (by kernel_rfl) (by kernel_rfl) (by kernel_rfl) (Src.sq rfl) | exact Evl_string _ _ 5 _ [c] rfl (by kernel_rfl) (by kernel_rfl) (by kernel_rfl) (Src.sq rfl))) | (apply Evl_k 17 rfl; (exact Evl_rowall _ _ _ _ _ _ rfl HElem.out rfl (by first | rfl | fail) rfl rfl (by decide))) | (apply Evl_x; (case hs => (intro _ _ h; cases h)); (case hx => rfl); (case hrun => (intro w; simp [wtb, AV.val, go_sem]; (try go_bits); rfl)))))); (case hT => ((try simp only [wtn, List.append_eq, List.foldl_cons, List.foldl_nil, List.map_cons, List.map_nil, Nat.reduceAdd, Nat.reduceMul, Nat.reduceSub, ↓reduceIte, Nat.reduceEqDiff]); rfl))) | fail))
  · refine endA_ret _ _ (Res1 rfl (RV.tmp _) (Weak.mk' [] _ (List.Perm.refl _) (VwHs.refl _ _) (VwL.refl _ _))) ?_
    exact ⟨rfl, rfl⟩
  have hr : raw.length ≤ 200 := by omega
  have hL := Lib.hid (partsL_len raw c hr)
  refine awp_loopS (S := Nat) (fun q => frm 67 [(41, .sq 7 (sa (partsL raw c))), (42, .x (.int .i64 7)), (43, .x (.int .i64 q))]) (fun q => []) (fun q => q ≤ 7) (fun q => 7 - q) 0 ?a (Nat.zero_le _) fun q hq => ?_
  case a => exact (Weak.mk' [] _ (List.Perm.refl _) (VwHs.refl _ _) (by (repeat' (first | exact VwL.nil | (refine VwL.cons ?_ ?_) | exact Vw.refl _ | exact Vw.top _ | fail))))
  simp only [frm, List.replicate_succ, List.replicate_zero, List.foldl_cons, List.foldl_nil, List.set_cons_zero, List.set_cons_succ]
  by_cases hk : q < (partsL raw c).length
  · have hx := hL.out _ (List.getElem_mem hk)
    have h1 := lall_s (partsL raw c)[q] (by omega)
    have h2 := all_s (partsL raw c)[q] (by omega)
    have h3 := same_s (toksOf (lex (partsL raw c)[q])) (flt_len _)
    have h7 : q < 7 := hk
    have hdr := sa_drop (partsL raw c) q hk
    generalize (partsL raw c)[q] = x at *
    unfold Flt.av at h1 h2
    have hln : (sa (partsL raw c)).length = 7 := by simp [partsL]
    (repeat' (first | with_reducible (first | refine awp_seq ?_ | refine awp_region ?_ | refine awp_block ?_ | refine awp_skip ?_ | refine awpL_nil ?_ | refine thenA_normal ?_ | refine inBlockA_normal ?_) | (refine awp_cond _ rfl (fun h => ?_) (fun h => ?_) <;> first | (exact absurd h (by decide)) | ((try (simp only [whn] at h)); first | (exfalso; omega; done) | skip)) | ((first | apply awpL_evl2 rfl | apply awpL_g2 _ _ rfl rfl rfl); (case h => ((try (intro (hp : (_ : Bool) = true); ((try simp only [Bool.and_eq_true, Bool.not_eq_true', Bool.not_eq_true] at hp); (try simp only [hp, wte]); (try simp only [whn] at hp)))); (first | (apply Evl_k 0 rfl; (first | exact Evl_mv _ rfl | exact Evl_as _ rfl)) | (apply Evl_k 1 rfl; (exact Evl_pickf _ _ _ rfl rfl)) | (apply Evl_k 2 rfl; (exact Evl_extract _ _ _ _ rfl rfl rfl)) | (apply Evl_k 6 rfl; (first | exact Evl_load_at _ _ _ _ _ rfl rfl HAgg.out (by first | exact Nat.le_of_ble_eq_true rfl | fail) (by first | exact Nat.le_of_ble_eq_true rfl | fail) | exact Evl_load _ _ _ _ _ _ _ _ rfl rfl FBox.out HAgg.out (by first | exact Nat.le_of_ble_eq_true rfl | fail) (by first | exact Nat.le_of_ble_eq_true rfl | fail))) | (apply Evl_k 7 rfl; (exact Evl_index_sq _ _ _ _ _ _ _ _ _ _ rfl rfl rfl HEl.out rfl (by first | omega | fail) (by simp; first | omega | fail))) | (apply Evl_k 11 rfl; (first | exact Evl_call 13 Tryd.f13 _ _ rfl rfl Tryd.func13 (by decide) rfl (VwL.refl _ _) (h1) | exact Evl_call 14 Tryd.f14 _ _ rfl rfl Tryd.func14 (by decide) rfl (VwL.refl _ _) (h2) | exact Evl_call 15 Tryd.f15 _ _ rfl rfl Tryd.func15 (by decide) rfl (VwL.refl _ _) (h3))) | (apply Evl_x; (case hs => (intro _ _ h; cases h)); (case hx => rfl); (case hrun => (intro w; simp [wtb, AV.val, go_sem]; (try go_bits); rfl)))))); (case hT => ((try simp (disch := omega) only [wtn, hdr, List.append_eq, List.foldl_cons, List.foldl_nil, List.map_cons, List.map_nil, Nat.reduceAdd, Nat.reduceMul, Nat.reduceSub, ↓reduceIte, Nat.reduceEqDiff]); rfl))) | (refine awpL_cons rfl ?_; ((first | (refine Stp_k 14 rfl ?_; ((refine Stp_alloc _ _ rfl HZero.out rfl (fun b => ?_)))) | (refine Stp_k 16 rfl ?_; ((refine Stp_store _ _ _ _ _ _ _ rfl rfl FBox.out HSize.out (by first | rfl | fail) (by first | exact Nat.le_of_ble_eq_true rfl | fail) ?_)))); apply awpL_cong; (case hT => ((try simp (disch := omega) only [wtn, hdr, List.append_eq, List.foldl_cons, List.foldl_nil, List.map_cons, List.map_nil, Nat.reduceAdd, Nat.reduceMul, Nat.reduceSub, ↓reduceIte, Nat.reduceEqDiff]); rfl)); (case hH => ((try simp (disch := omega) only [wtn, hdr, List.append_eq, List.foldl_cons, List.foldl_nil, List.map_cons, List.map_nil, Nat.reduceAdd, Nat.reduceMul, Nat.reduceSub, ↓reduceIte, Nat.reduceEqDiff]); rfl)))) | fail))
    refine ⟨q + 1, by omega, by omega, ?_⟩
    exact (Weak.mk' [_, _] [] (List.Perm.refl _) (VwHs.refl _ _) (by (repeat' (first | exact VwL.nil | (refine VwL.cons ?_ ?_) | exact Vw.refl _ | exact Vw.top _ | fail))))
  · have h7 : ¬ q < 7 := hk
    (repeat' (first | with_reducible (first | refine awp_seq ?_ | refine awp_region ?_ | refine awp_ret ?_ | refine awp_exit ?_ | refine awpL_nil ?_ | refine thenA_normal ?_ | refine thenA_exit ?_ | refine inBlockA_eq ?_) | (refine awp_cond _ rfl (fun h => ?_) (fun h => ?_) <;> ((try (simp only [whn] at h)); first | (exfalso; omega; done) | skip)) | ((apply awpL_evl2 rfl); (case h => ((try (intro (hp : (_ : Bool) = true); ((try simp only [Bool.and_eq_true, Bool.not_eq_true', Bool.not_eq_true] at hp); (try simp only [hp, wte]); (try simp only [whn] at hp)))); (first | (apply Evl_k 0 rfl; (exact Evl_as _ rfl)) | (apply Evl_x; (case hs => (intro _ _ h; cases h)); (case hx => rfl); (case hrun => (intro w; simp [wtb, AV.val, go_sem]; (try go_bits); rfl)))))); (case hT => ((try simp only [wtn, List.append_eq, List.foldl_cons, List.foldl_nil, List.map_cons, List.map_nil, Nat.reduceAdd, Nat.reduceMul, Nat.reduceSub, ↓reduceIte, Nat.reduceEqDiff]); rfl))) | fail))
    refine endA_ret _ _ (Res1 rfl (RV.tmp _) (Weak.mk' [] _ (List.Perm.refl _) (VwHs.refl _ _) (VwL.refl _ _))) ?_
    exact ⟨rfl, rfl⟩
end Go.Proofs.YtfaljkenmbbbaaaDoor
/- LexerTokens: the walk. -/
namespace Go.Proofs.YtfaljkenmbbbaaaDoor
open Go.RowKit
set_option linter.unusedSimpArgs false
set_option linter.unusedVariables false
set_option maxRecDepth 100000 in
set_option maxHeartbeats 8000000 in
theorem new_w (l : List Int) (H : List Hp) : Spec Tryd.prog 10 H [.sq l.length (ia l)] (fun r H' => ∃ b, r = .x (.pointer (some ⟨b, 0, none⟩)) ∧ H' = .box b [.sq l.length (ia l), .x (.int .i64 0)] :: H) := by
  refine Spec_of Tryd.func10 rfl ?_
  simp only [Tryd.ntmps10, List.length_cons, List.length_nil, List.replicate_succ, List.replicate_zero, List.cons_append, List.nil_append, Nat.reduceAdd, Nat.reduceSub]
  (repeat' (first | with_reducible (first | refine awp_seq ?_ | refine awp_region ?_ | refine awp_ret ?_ | refine awpL_nil ?_ | refine thenA_normal ?_) | ((apply awpL_evl2 rfl); (case h => ((try (intro (hp : (_ : Bool) = true); ((try simp only [Bool.and_eq_true, Bool.not_eq_true', Bool.not_eq_true] at hp); (try simp only [hp, wte]); (try simp only [whn] at hp)))); (first | (apply Evl_k 0 rfl; (first | exact Evl_mv _ rfl | exact Evl_as _ rfl)) | (apply Evl_k 10 rfl; (exact Evl_build _ _ _ _ _ rfl HPl.out (by first | rfl | fail) rfl))))); (case hT => ((try simp only [wtn, List.append_eq, List.foldl_cons, List.foldl_nil, List.map_cons, List.map_nil, Nat.reduceAdd, Nat.reduceMul, Nat.reduceSub, ↓reduceIte, Nat.reduceEqDiff]); rfl))) | (refine awpL_cons rfl ?_; (((refine Stp_k 15 rfl ?_; ((refine Stp_box _ _ rfl (by first | rfl | fail) (fun b => ?_))))); apply awpL_cong; (case hT => ((try simp only [wtn, List.append_eq, List.foldl_cons, List.foldl_nil, List.map_cons, List.map_nil, Nat.reduceAdd, Nat.reduceMul, Nat.reduceSub, ↓reduceIte, Nat.reduceEqDiff]); rfl)); (case hH => ((try simp only [wtn, List.append_eq, List.foldl_cons, List.foldl_nil, List.map_cons, List.map_nil, Nat.reduceAdd, Nat.reduceMul, Nat.reduceSub, ↓reduceIte, Nat.reduceEqDiff]); rfl)))) | fail))
  refine endA_ret _ _ (Res1 rfl (RV.tmp _) (Weak.mk' [] _ (List.Perm.refl _) (VwHs.refl _ _) (VwL.refl _ _))) ?_
  exact ⟨_, rfl, rfl⟩
def tokL (s raw : List UInt8) : List (List UInt8) := [s, raw, s ++ raw]
theorem tokL_len (s raw : List UInt8) (h : s.length ≤ 5000) (hr : raw.length ≤ 400) : ∀ x ∈ tokL s raw, x.length ≤ 10000 := by
  intro x hx
  simp only [tokL, List.mem_cons, List.mem_nil_iff, or_false] at hx
  rcases hx with rfl | rfl | rfl <;> (try rw [List.length_append]) <;> omega
set_option maxRecDepth 100000 in
set_option maxHeartbeats 8000000 in
theorem tokens_s (l : List Int) (raw : List UInt8) (hd : DK l) : Spec Tryd.prog 3 [] [.sq l.length (ia l), .x (.string (bs raw))] (fun r H' => r = .x (.bool true) ∧ H' = []) := by
  refine Spec_of Tryd.func3 rfl ?_
  simp only [Tryd.ntmps3, List.length_cons, List.length_nil, List.replicate_succ, List.replicate_zero, List.cons_append, List.nil_append, Nat.reduceAdd, Nat.reduceSub]
  (repeat' (first | with_reducible (first | refine awp_seq ?_ | refine awp_region ?_ | refine awp_block ?_ | refine awp_ret ?_ | refine awp_skip ?_ | refine awpL_nil ?_ | refine thenA_normal ?_ | refine thenA_ret ?_) | (refine awp_cond _ rfl (fun h => ?_) (fun h => ?_) <;> first | (exact absurd h (by decide)) | ((try (simp only [whn] at h)); skip)) | ((apply awpL_evl2 rfl); (case h => ((try (intro (hp : (_ : Bool) = true); ((try simp only [Bool.and_eq_true, Bool.not_eq_true', Bool.not_eq_true] at hp); (try simp only [hp, wte]); (try simp only [whn] at hp)))); (first | (apply Evl_k 0 rfl; (first | exact Evl_mv _ rfl | exact Evl_as _ rfl)) | (apply Evl_k 3 rfl; (exact Evl_len _ _ _ _ _ _ HEl.out rfl rfl)) | (apply Evl_k 11 rfl; (exact Evl_call 9 Tryd.f9 _ _ rfl rfl Tryd.func9 (by decide) rfl (VwL.refl _ _) (sane_s))) | (apply Evl_k 12 rfl; (exact Evl_concat _ _ _ _ rfl rfl rfl (by omega))) | (apply Evl_k 17 rfl; (exact Evl_rowall _ _ _ _ _ _ rfl HElem.out rfl (by first | rfl | fail) rfl rfl (by decide))) | (apply Evl_x; (case hs => (intro _ _ h; cases h)); (case hx => rfl); (case hrun => (intro w; simp [wtb, AV.val, go_sem]; (try go_bits); rfl)))))); (case hT => ((try simp only [wtn, List.append_eq, List.foldl_cons, List.foldl_nil, List.map_cons, List.map_nil, Nat.reduceAdd, Nat.reduceMul, Nat.reduceSub, ↓reduceIte, Nat.reduceEqDiff]); rfl))) | (refine awpL_cons rfl ?_; (((refine Stp_k 11 rfl ?_; (first | (refine Stp_call 10 Tryd.f10 ([]) _ _ _ rfl rfl Tryd.func10 (by decide) rfl (List.Perm.refl _) (VwL.refl _ _) (new_w l []) ?_; rintro _ _ ⟨bd, rfl, rfl⟩) | (refine Stp_call 12 Tryd.f12 [_] _ _ _ rfl rfl Tryd.func12 (by decide) rfl (List.Perm.refl _) (VwL.refl _ _) (procfile_w _ l 0 hd (Nat.zero_le _)) ?_; rintro _ _ ⟨s0, k1, rfl, rfl, hk1, hs0, hx0⟩) | (refine Stp_call 11 Tryd.f11 [_] _ _ _ rfl rfl Tryd.func11 (by decide) rfl (List.Perm.refl _) (VwL.refl _ _) (spoil_w _ l _ _ hd (by assumption) (by omega)) ?_; rintro _ _ ⟨s, k2, rfl, rfl, hk2, hs⟩)))); apply awpL_cong; (case hT => ((try simp only [wtn, List.append_eq, List.foldl_cons, List.foldl_nil, List.map_cons, List.map_nil, Nat.reduceAdd, Nat.reduceMul, Nat.reduceSub, ↓reduceIte, Nat.reduceEqDiff]); rfl)); (case hH => ((try simp only [wtn, List.append_eq, List.foldl_cons, List.foldl_nil, List.map_cons, List.map_nil, Nat.reduceAdd, Nat.reduceMul, Nat.reduceSub, ↓reduceIte, Nat.reduceEqDiff]); rfl)))) | fail))
  · refine endA_ret _ _ (Res1 rfl (RV.tmp _) (Weak.mk' [] _ (List.Perm.refl _) (VwHs.refl _ _) (VwL.refl _ _))) ?_
    exact ⟨rfl, rfl⟩
  have hL := Lib.hid (tokL_len s raw (by omega) (by omega))
  refine awp_loopS (S := Nat) (fun q => frm 55 [(29, .sq 3 (sa (tokL s raw))), (30, .x (.int .i64 3)), (31, .x (.int .i64 q))]) (fun q => []) (fun q => q ≤ 3) (fun q => 3 - q) 0 ?a (Nat.zero_le _) fun q hq => ?_
  case a => exact (Weak.mk' [_] [] (List.Perm.refl _) (VwHs.refl _ _) (by (repeat' (first | exact VwL.nil | (refine VwL.cons ?_ ?_) | exact Vw.refl _ | exact Vw.top _ | fail))))
  simp only [frm, List.replicate_succ, List.replicate_zero, List.foldl_cons, List.foldl_nil, List.set_cons_zero, List.set_cons_succ]
  by_cases hk : q < (tokL s raw).length
  · have hx := hL.out _ (List.getElem_mem hk)
    have h1 := lall_s (tokL s raw)[q] (by omega)
    have h2 := all_s (tokL s raw)[q] (by omega)
    have h3 := same_s (toksOf (lex (tokL s raw)[q])) (flt_len _)
    have h7 : q < 3 := hk
    have hdr := sa_drop (tokL s raw) q hk
    generalize (tokL s raw)[q] = x at *
    unfold Flt.av at h1 h2
    have hln : (sa (tokL s raw)).length = 3 := by simp [tokL]
    (repeat' (first | with_reducible (first | refine awp_seq ?_ | refine awp_region ?_ | refine awp_block ?_ | refine awp_skip ?_ | refine awpL_nil ?_ | refine thenA_normal ?_ | refine inBlockA_normal ?_) | (refine awp_cond _ rfl (fun h => ?_) (fun h => ?_) <;> first | (exact absurd h (by decide)) | ((try (simp only [whn] at h)); first | (exfalso; omega; done) | skip)) | ((first | apply awpL_evl2 rfl | apply awpL_g2 _ _ rfl rfl rfl); (case h => ((try (intro (hp : (_ : Bool) = true); ((try simp only [Bool.and_eq_true, Bool.not_eq_true', Bool.not_eq_true] at hp); (try simp only [hp, wte]); (try simp only [whn] at hp)))); (first | (apply Evl_k 0 rfl; (first | exact Evl_mv _ rfl | exact Evl_as _ rfl)) | (apply Evl_k 1 rfl; (exact Evl_pickf _ _ _ rfl rfl)) | (apply Evl_k 2 rfl; (exact Evl_extract _ _ _ _ rfl rfl rfl)) | (apply Evl_k 6 rfl; (first | exact Evl_load_at _ _ _ _ _ rfl rfl HAgg.out (by first | exact Nat.le_of_ble_eq_true rfl | fail) (by first | exact Nat.le_of_ble_eq_true rfl | fail) | exact Evl_load _ _ _ _ _ _ _ _ rfl rfl FBox.out HAgg.out (by first | exact Nat.le_of_ble_eq_true rfl | fail) (by first | exact Nat.le_of_ble_eq_true rfl | fail))) | (apply Evl_k 7 rfl; (exact Evl_index_sq _ _ _ _ _ _ _ _ _ _ rfl rfl rfl HEl.out rfl (by first | omega | fail) (by simp; first | omega | fail))) | (apply Evl_k 11 rfl; (first | exact Evl_call 13 Tryd.f13 _ _ rfl rfl Tryd.func13 (by decide) rfl (VwL.refl _ _) (h1) | exact Evl_call 14 Tryd.f14 _ _ rfl rfl Tryd.func14 (by decide) rfl (VwL.refl _ _) (h2) | exact Evl_call 15 Tryd.f15 _ _ rfl rfl Tryd.func15 (by decide) rfl (VwL.refl _ _) (h3))) | (apply Evl_x; (case hs => (intro _ _ h; cases h)); (case hx => rfl); (case hrun => (intro w; simp [wtb, AV.val, go_sem]; (try go_bits); rfl)))))); (case hT => ((try simp (disch := omega) only [wtn, hdr, List.append_eq, List.foldl_cons, List.foldl_nil, List.map_cons, List.map_nil, Nat.reduceAdd, Nat.reduceMul, Nat.reduceSub, ↓reduceIte, Nat.reduceEqDiff]); rfl))) | (refine awpL_cons rfl ?_; ((first | (refine Stp_k 14 rfl ?_; ((refine Stp_alloc _ _ rfl HZero.out rfl (fun b => ?_)))) | (refine Stp_k 16 rfl ?_; ((refine Stp_store _ _ _ _ _ _ _ rfl rfl FBox.out HSize.out (by first | rfl | fail) (by first | exact Nat.le_of_ble_eq_true rfl | fail) ?_)))); apply awpL_cong; (case hT => ((try simp (disch := omega) only [wtn, hdr, List.append_eq, List.foldl_cons, List.foldl_nil, List.map_cons, List.map_nil, Nat.reduceAdd, Nat.reduceMul, Nat.reduceSub, ↓reduceIte, Nat.reduceEqDiff]); rfl)); (case hH => ((try simp (disch := omega) only [wtn, hdr, List.append_eq, List.foldl_cons, List.foldl_nil, List.map_cons, List.map_nil, Nat.reduceAdd, Nat.reduceMul, Nat.reduceSub, ↓reduceIte, Nat.reduceEqDiff]); rfl)))) | fail))
    refine ⟨q + 1, by omega, by omega, ?_⟩
    exact (Weak.mk' [_, _] [] (List.Perm.refl _) (VwHs.refl _ _) (by (repeat' (first | exact VwL.nil | (refine VwL.cons ?_ ?_) | exact Vw.refl _ | exact Vw.top _ | fail))))
  · have h7 : ¬ q < 3 := hk
    (repeat' (first | with_reducible (first | refine awp_seq ?_ | refine awp_region ?_ | refine awp_ret ?_ | refine awp_exit ?_ | refine awpL_nil ?_ | refine thenA_normal ?_ | refine thenA_exit ?_ | refine inBlockA_eq ?_) | (refine awp_cond _ rfl (fun h => ?_) (fun h => ?_) <;> ((try (simp only [whn] at h)); first | (exfalso; omega; done) | skip)) | ((apply awpL_evl2 rfl); (case h => ((try (intro (hp : (_ : Bool) = true); ((try simp only [Bool.and_eq_true, Bool.not_eq_true', Bool.not_eq_true] at hp); (try simp only [hp, wte]); (try simp only [whn] at hp)))); (first | (apply Evl_k 0 rfl; (exact Evl_as _ rfl)) | (apply Evl_x; (case hs => (intro _ _ h; cases h)); (case hx => rfl); (case hrun => (intro w; simp [wtb, AV.val, go_sem]; (try go_bits); rfl)))))); (case hT => ((try simp only [wtn, List.append_eq, List.foldl_cons, List.foldl_nil, List.map_cons, List.map_nil, Nat.reduceAdd, Nat.reduceMul, Nat.reduceSub, ↓reduceIte, Nat.reduceEqDiff]); rfl))) | fail))
    refine endA_ret _ _ (Res1 rfl (RV.tmp _) (Weak.mk' [] _ (List.Perm.refl _) (VwHs.refl _ _) (VwL.refl _ _))) ?_
    exact ⟨rfl, rfl⟩
end Go.Proofs.YtfaljkenmbbbaaaDoor
/- How a law's arguments are opened: what the reading of a []byte, a []int or a struct gives the walk. No program in sight. -/
namespace Go.Proofs.YtfaljkenmbbbaaaDoor
open Go.ChangeShapes Go.WideShapes Go.ChangeAt Go.RowKit Go.Joins
set_option linter.unusedSimpArgs false
set_option linter.unusedVariables false
/-- A []int that reads as l. -/
def Is (lo : Nat) (w : World) (v : Value) (l : List Int) : Prop := Sl lo w v l.length (l.map (Value.int .i64))
theorem Is.mono {lo : Nat} {w w' : World} {v : Value} {l : List Int} (h : Is lo w v l) (hb : Ext w w') : Is lo w' v l := Sl.mono h hb
theorem Is.shape {lo : Nat} {w : World} {v : Value} {l : List Int} (h : Is lo w v l) : ∃ ad cap, v = .slice ad l.length cap ∧ l.length ≤ cap := Sl.shape h
def I64s (l : List Int) : Prop := ∀ x ∈ l, -9223372036854775808 ≤ x ∧ x ≤ 9223372036854775807
section
variable {H : Type} {enc : TypeId × Value → H} {P : Program} {W : World} {fuel : Nat} {t e : TypeId} {v : Value} {x : DataW H × List MemPlace}
theorem open_row {k : IntKind} (ht : P.underlying t = some (.slice e)) (he : P.underlying e = some (.int k)) (hc : P.cellsOf e = 1)
    (h : DataW.trod enc P W 0 (fun _ => true) true fuel t [v] = some x) (hsz : ∀ n ∈ x.1.weights P t, n ≤ reachBytes) :
    ∃ zs : List Int, Sl 0 W v zs.length (zs.map (Value.int k)) ∧ (∀ n ∈ zs, (Lit.int k n).wf = true) ∧ zs.length * P.bytesOf e ≤ reachBytes := by
  rcases open_ints ht he hc h with ⟨hcs, hx⟩ | ⟨a, len, cap, zs, hcs, _, hl, hm, hz, hx, hcell, hwz⟩
  · simp at hcs
    subst hcs
    exact ⟨[], Sl.nil _ _, by simp, by simp⟩
  · simp at hcs
    subst hcs
    have hz' : zs.length = cap := by simpa using hz
    have hlen : (zs.take len).length = len := by simp; omega
    refine ⟨zs.take len, ?_, fun n hn => hwz n (List.mem_of_mem_take hn), ?_⟩
    · refine ⟨some a, cap, by rw [hlen], by rw [hlen]; exact hl, hm, (by intro h; cases h), fun _ _ => Nat.zero_le _, fun j u hj => ⟨a, rfl, ?_⟩⟩
      rw [List.getElem?_map, List.getElem?_take] at hj
      split at hj
      · rename_i hjl
        have hjz : j < zs.length := by omega
        rw [hcell j hjz]
        simp [List.getElem?_eq_getElem hjz] at hj
        simp [← hj, List.getD, List.getElem?_eq_getElem hjz]
      · simp at hj
    · have := hsz ((lits (H := H) k (zs.take len)).length * P.bytesOf e + (lits (H := H) k (zs.drop len)).length * P.bytesOf e) (by rw [hx]; simp [DataW.weights, ht, Nat.add_mul])
      have h2 : (lits (H := H) k (zs.take len)).length = (zs.take len).length := by simp [lits]
      rw [h2] at this
      omega
theorem open_bytes (ht : P.underlying t = some (.slice e)) (he : P.underlying e = some (.int .u8)) (hc : P.cellsOf e = 1) (hb : P.bytesOf e = 1)
    (h : DataW.trod enc P W 0 (fun _ => true) true fuel t [v] = some x) (hsz : ∀ n ∈ x.1.weights P t, n ≤ reachBytes) :
    ∃ l : List UInt8, Bs 0 W v l ∧ l.length ≤ 140737488355328 := by
  obtain ⟨zs, h1, h2, h3⟩ := open_row ht he hc h hsz
  refine ⟨zs.map fun n => UInt8.ofNat n.toNat, ?_, ?_⟩
  · unfold Bs
    have : u8s (zs.map fun n => UInt8.ofNat n.toNat) = zs.map (Value.int .u8) := by
      simp only [u8s, List.map_map]
      apply List.map_congr_left
      intro n hn
      have hw := h2 n hn
      simp [Lit.wf, IntKind.min, IntKind.max, IntKind.signed, IntKind.bits] at hw
      simp
      omega
    rw [this, List.length_map]; exact h1
  · rw [List.length_map, ]
    rw [hb, Nat.mul_one] at h3
    have := reachBytes_lt
    omega
theorem open_is (ht : P.underlying t = some (.slice e)) (he : P.underlying e = some (.int .i64)) (hc : P.cellsOf e = 1) (hb : P.bytesOf e = 8)
    (h : DataW.trod enc P W 0 (fun _ => true) true fuel t [v] = some x) (hsz : ∀ n ∈ x.1.weights P t, n ≤ reachBytes) :
    ∃ l : List Int, Is 0 W v l ∧ I64s l ∧ l.length ≤ 140737488355328 := by
  obtain ⟨zs, h1, h2, h3⟩ := open_row ht he hc h hsz
  refine ⟨zs, h1, fun n hn => ?_, ?_⟩
  · have hw := h2 n hn
    simp [Lit.wf, IntKind.min, IntKind.max, IntKind.signed, IntKind.bits] at hw
    omega
  · rw [hb] at h3
    have := reachBytes_lt
    omega
end
theorem i64_bounds {a : Int} (h : (Lit.int .i64 a).wf = true) : -9223372036854775808 ≤ a ∧ a ≤ 9223372036854775807 := by
  simp [Lit.wf, IntKind.min, IntKind.max, IntKind.signed, IntKind.bits] at h
  omega
theorem weights_le {H : Type} {P : Program} {ts : List TypeId} {ds : List (DataW H)} (h : (DataW.weightsEach P ts ds).all (· ≤ reachBytes) = true) {j : Nat} {t : TypeId} {d : DataW H} (ht : ts[j]? = some t) (hd : ds[j]? = some d) : ∀ n ∈ d.weights P t, n ≤ reachBytes := fun n hn => by
  have := List.all_eq_true.1 h _ (DataW.weights_mem_each ht hd n hn)
  simpa using this
end Go.Proofs.YtfaljkenmbbbaaaDoor
/- How a law is entered: what the arguments' readings say of a walk's values. -/
namespace Go.Proofs.YtfaljkenmbbbaaaDoor
open Go.RowKit
set_option linter.unusedSimpArgs false
set_option linter.unusedVariables false
theorem Sl.den {W : World} {v : Value} {n : Nat} {xs : List Value} (h : Sl 0 W v n xs) (h1 : ∀ u ∈ xs, u.oneCell' = true) : Den (fun _ => False) W (.sq n (xs.map AV.x)) v := by
  obtain ⟨ad, cap, rfl, h1', h2, h3, h4⟩ := Sl.split h
  rw [Den]
  refine ⟨ad, cap, xs, rfl, h1', h2, h3, ?_, DenL.exact⟩
  rcases h4 with h4 | ⟨b, o, rfl, _, hc⟩
  · exact .inl h4
  · exact .inr ⟨b, o, rfl, fun h => h, fun j u hj => ⟨hc j u hj, h1 u (List.mem_of_getElem? hj)⟩⟩
theorem Is.den {W : World} {v : Value} {l : List Int} (h : Is 0 W v l) : Den (fun _ => False) W (.sq l.length (ia l)) v := by
  have := Sl.den h (fun u hu => by obtain ⟨n, -, rfl⟩ := List.mem_map.1 hu; rfl)
  have e : ia l = (l.map (Value.int .i64)).map AV.x := by simp [ia]
  rw [e]; exact this
theorem Bs.den {W : World} {v : Value} {l : List UInt8} (h : Bs 0 W v l) : Den (fun _ => False) W (.sq l.length (u8a l)) v :=
  Sl.den h (fun u hu => by obtain ⟨n, -, rfl⟩ := List.mem_map.1 hu; rfl)
end Go.Proofs.YtfaljkenmbbbaaaDoor
/- What the listed variable gives a walk: from the row's condition to its cell; a world that meets it. After the kit's worked example of errors.As. -/
namespace Go.Proofs.YtfaljkenmbbbaaaDoor
open Go.RowKit Go
set_option linter.unusedSimpArgs false
set_option linter.unusedVariables false
theorem laid_et : Tryd.prog.globalNamed "errors.errorType" = some 0 := by kernel_rfl
theorem laid_rt : (Tryd.prog.cutTypes.find? (·.1 == "internal/reflectlite.rtype")).map (·.2) = some 127 := by kernel_rfl
theorem laid_size : Tryd.prog.types.size = 186 := by kernel_rfl
theorem laid_row : ((List.range 186).filter fun t => Tryd.prog.rowNamed t [101, 114, 114, 111, 114]) = [56] := by kernel_rfl
/-- What the condition gives a walk: the variable's one cell. -/
theorem gw_of_laid {W : World} (h : laidMetH Tryd.prog [("errors.errorType", Rows.laid_errors_errorType)] W) : Gw W := by
  have h' : laidMet Tryd.prog [] W ∧ handlesMet Tryd.prog [("errors.errorType", Rows.laid_errors_errorType)] W := h
  obtain ⟨name, u, ty, e1, e2, e3, e4, e5⟩ := h'.2 _ (List.mem_singleton.2 rfl)
  have en : name = [101, 114, 114, 111, 114] := (Option.some.inj e1).symm
  subst en
  obtain rfl := Option.some.inj (laid_rt.symm.trans e2)
  have hm : ty ∈ (List.range 186).filter fun t => Tryd.prog.rowNamed t [101, 114, 114, 111, 114] := List.mem_filter.2 ⟨List.mem_range.2 (by rw [← laid_size]; exact e3), e4⟩
  rw [laid_row] at hm
  obtain rfl := List.mem_singleton.1 hm
  have hh : typeHandle Tryd.prog 56 = .pointer (some ⟨2, 56, none⟩) := by kernel_rfl
  rw [hh] at e5
  unfold Gw
  simpa using World.var?_cell laid_et e5 0
/-- A world that meets the condition: the settled one, the variable's cell laid. -/
noncomputable def laidWorld (os : Os) : World :=
  let w0 := World.holding Tryd.prog os ⟨#[], #[], []⟩
  { w0 with heap := w0.heap.modify 0 fun
      | .cells _ t frozen => .cells #[.iface 127 (.agg #[.pointer (some ⟨2, 56, none⟩)])] t frozen
      | o => o }
theorem laidWorld_met (os : Os) (args : Array Value) : laidMetH Tryd.prog [("errors.errorType", Rows.laid_errors_errorType)] ((laidWorld os).forCall (fun _ _ => 0) ⟨#[], args, []⟩).memory :=
  laidMetH_of_parts (laidMet_nil _ _) (by kernel_rfl)
theorem u8_of {a : Int} (h : (Lit.int .u8 a).wf = true) : ∃ c : UInt8, a = (c.toNat : Nat) := by
  have : 0 ≤ a ∧ a ≤ 255 := by simp [Lit.wf, IntKind.min, IntKind.max, IntKind.signed, IntKind.bits] at h; omega
  refine ⟨UInt8.ofNat a.toNat, ?_⟩
  rw [UInt8.toNat_ofNat']
  omega
end Go.Proofs.YtfaljkenmbbbaaaDoor
/- LexerPlaces, in plain Lean: comments and blanks round a text; places ascend. No program in sight. -/
namespace Go.Proofs.YtfaljkenmbbbaaaDoor
open Go.RowKit
set_option linter.unusedSimpArgs false
set_option linter.unusedVariables false
def preL : List UInt8 := [35, 32, 102, 105, 114, 115, 116, 10, 9]
def sufL : List UInt8 := [10, 35, 32, 108, 97, 115, 116]
theorem skp_pre (x : List UInt8) : skp (preL ++ x) = preL.length + skp x := by
  show skp (35 :: ([32, 102, 105, 114, 115, 116] ++ 10 :: 9 :: x)) = 9 + skp x
  have hc : cmt (35 :: ([32, 102, 105, 114, 115, 116] ++ 10 :: 9 :: x)) = 7 := by
    rw [← List.cons_append, cmt_app]; rfl
  rw [skp_cmt _ _ (by decide), hc]
  show 7 + skp (10 :: 9 :: x) = _
  rw [skp_blank _ _ (by decide), skp_blank _ _ (by decide)]; omega
theorem lex_last (p : Nat × Nat) (n : Nat) : ∃ e : Tok, lexGo p n [35, 32, 108, 97, 115, 116] = .ok [e] ∧ e.kind = 6 ∧ e.text = [] := by
  have hc : skp [35, 32, 108, 97, 115, 116] = 6 := by
    rw [skp_cmt _ _ (by decide), show cmt [35, 32, 108, 97, 115, 116] = 6 from rfl]
    show 6 + skp [] = 6
    rw [skp_nil]
  rw [lexGo_end _ _ _ (by rw [hc]; rfl)]
  exact ⟨_, rfl, rfl, rfl⟩
/-- What the law asks of the two readings. -/
def PlOk (a b : Except Flt (List Tok)) : Prop := match a, b with
  | .error f, .error g => g.code = f.code ∧ g.line = f.line + 1
  | .ok ts, .ok us => us.length = ts.length ∧ (∀ (k : Nat) (h1 : k < ts.length) (h2 : k < us.length), us[k].kind = ts[k].kind ∧ us[k].text = ts[k].text) ∧ ∀ (k : Nat) (h : k + 1 < ts.length), PL (ts[k].line, ts[k].col) (ts[k + 1].line, ts[k + 1].col)
  | _, _ => False
theorem places_plain (s : List UInt8) (h : s.length ≤ 8000) : PlOk (lex s) (lex (preL ++ s ++ sufL)) := by
  have hl1 : preL.length = 9 := rfl
  have hl2 : sufL.length = 7 := rfl
  unfold lex
  rw [if_neg (by omega), if_neg (by simp only [List.length_append]; omega), List.append_assoc, lexGo_pre _ _ _ _ (skp_pre _)]
  have hpl : plc (1, 1) preL = (2, 2) := rfl
  rw [hpl]
  have hpd := lexGo_pd (d := 1) (c := false) s.length s (1, 1) (2, 2) 0 (Nat.le_refl _) ⟨rfl, fun h => by cases h⟩
  obtain ⟨k1, k2⟩ := lexGo_app [35, 32, 108, 97, 115, 116] s.length s (2, 2) 0 (Nat.le_refl _)
  have hasc := lexGo_asc s.length s (1, 1) 0 (0, 0) (Nat.le_refl _) (.inl (by decide))
  cases ha : lexGo (1, 1) 0 s with
  | error f =>
    cases hb : lexGo (2, 2) 0 s with
    | error g =>
      rw [ha, hb] at hpd
      rw [show s ++ sufL = s ++ 10 :: [35, 32, 108, 97, 115, 116] from rfl, k1 g hb]
      exact ⟨hpd.1, hpd.2.1⟩
    | ok us => rw [ha, hb] at hpd; exact hpd.elim
  | ok ts =>
    cases hb : lexGo (2, 2) 0 s with
    | error g => rw [ha, hb] at hpd; exact hpd.elim
    | ok us =>
      rw [ha, hb] at hpd
      obtain ⟨qs, e, rfl, he1, he2, hx⟩ := k2 us hb
      obtain ⟨e', hz, hz1, hz2⟩ := lex_last (plc (2, 2) (s ++ [10])) (0 + qs.length)
      rw [show s ++ sufL = s ++ 10 :: [35, 32, 108, 97, 115, 116] from rfl, hx, hz]
      have hlen := hpd.len
      refine ⟨by simpa using hlen, fun k h1 h2 => ?_, fun k hk => (hasc ts ha).get k hk⟩
      have hg := hpd.get k h1 (by simpa using h2)
      by_cases hk : k < qs.length
      · rw [List.getElem_append_left hk] at hg
        simp only [List.getElem_append_left hk]
        exact ⟨hg.1, hg.2.1⟩
      · have hk2 : k = qs.length := by simp at h2; omega
        subst hk2
        simp only [List.getElem_append_right (Nat.le_refl _), Nat.sub_self, List.getElem_cons_zero] at hg ⊢
        exact ⟨by rw [hz1, ← hg.1, he1], by rw [hz2, ← hg.2.1, he2]⟩
theorem plc_ub : ∀ (l : List UInt8) (p : Nat × Nat), (plc p l).1 ≤ p.1 + l.length ∧ (plc p l).2 ≤ p.2 + l.length + 1
  | [], p => by simp only [plc]; constructor <;> simp <;> omega
  | c :: r, p => by
    simp only [plc, List.length_cons]
    have := plc_ub r (if c.toNat = 10 then (p.1 + 1, 1) else (p.1, p.2 + 1))
    split at this <;> (rename_i h; simp only [h, if_true, if_false] at *; omega)
/-- How far a fault, a token lies at most. -/
theorem lexGo_bnd : ∀ (m : Nat) (l : List UInt8) (p : Nat × Nat) (n : Nat), l.length ≤ m → (∀ f, lexGo p n l = .error f → f.line ≤ p.1 + l.length) ∧ ∀ ts, lexGo p n l = .ok ts → ∀ t ∈ ts, t.line ≤ p.1 + l.length
  | m, l, p, n, hm => by
    have hb : ∀ k, (plc p (l.take k)).1 ≤ p.1 + l.length := fun k => by
      have := (plc_ub (l.take k) p).1
      rw [List.length_take] at this; omega
    cases hd : l.drop (skp l) with
    | nil =>
      rw [lexGo_end p n l hd]
      refine ⟨fun f h => (by cases h), fun ts h t ht => ?_⟩
      cases h
      rw [List.mem_singleton] at ht
      subst ht
      exact (plc_ub l p).1
    | cons x r =>
      have hlen := congrArg List.length hd
      simp only [List.length_drop, List.length_cons] at hlen
      cases h1 : one (x :: r) with
      | error e => rw [lexGo_bad _ _ _ x r e hd h1]; exact ⟨fun f h => (by cases h; exact hb _), fun ts h => by cases h⟩
      | ok z =>
        by_cases hn : 2000 ≤ n
        · rw [lexGo_full _ _ _ x r z hd h1 hn]; exact ⟨fun f h => (by cases h; exact hb _), fun ts h => by cases h⟩
        · obtain ⟨a, b, k⟩ := z
          have g := one_le h1
          simp only [List.length_cons] at g
          rw [lexGo_one _ _ _ x r a b k hd h1 g.1 (by omega)]
          cases m with
          | zero => omega
          | succ m =>
            obtain ⟨k1, k2⟩ := lexGo_bnd m ((x :: r).drop k) (plc p (l.take (skp l + k))) (n + 1) (by simp; omega)
            have hp2 := (plc_ub (l.take (skp l + k)) p).1
            rw [List.length_take] at hp2
            simp only [List.length_drop, List.length_cons] at k1 k2
            cases hr : lexGo (plc p (l.take (skp l + k))) (n + 1) ((x :: r).drop k) with
            | error f => refine ⟨fun f' h => ?_, fun ts h => by cases h⟩; cases h; have := k1 _ hr; omega
            | ok ys =>
              refine ⟨fun f h => (by cases h), fun ts h t ht => ?_⟩
              cases h
              rcases List.mem_cons.1 ht with rfl | ht
              · exact hb _
              · have := k2 _ hr t ht; omega
theorem lex_line (l : List UInt8) : (∀ f, lex l = .error f → f.line ≤ 1 + l.length) ∧ ∀ ts, lex l = .ok ts → ∀ t ∈ ts, t.line ≤ 1 + l.length := by
  have h := lexGo_bnd l.length l (1, 1) 0 (Nat.le_refl _)
  unfold lex
  split
  · exact ⟨fun f h => (by cases h; simp), fun ts h => by cases h⟩
  · exact h
end Go.Proofs.YtfaljkenmbbbaaaDoor
