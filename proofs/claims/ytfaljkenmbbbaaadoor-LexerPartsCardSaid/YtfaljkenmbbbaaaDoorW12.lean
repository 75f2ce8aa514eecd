import Derived.Test.YtfaljkenmbbbaaaDoorW11
import Derived.Test.YtfaljkenmbbbaaaDoorRows
import Derived.Test.YtfaljkenmbbbaaaDoorW0
import Derived.Shelf.Strings.Builder1
import Derived.Shelf.Small.Strs
import Derived.Test.YtfaljkenmbbbaaaDoorW9
/- The program's lexer: span, advance. -/
namespace Go.Proofs.YtfaljkenmbbbaaaDoor
open Go.RowKit
set_option linter.unusedSimpArgs false
set_option linter.unusedVariables false
theorem drop_get (l : List UInt8) (k : Nat) (h : k < l.length) : l.drop k = l.getD k 0 :: l.drop (k + 1) := by
  rw [List.drop_eq_getElem_cons h, getD_at l k 0 h]
set_option maxRecDepth 100000 in
set_option maxHeartbeats 8000000 in
theorem span_s (f : Nat) (fn : Func) (p : UInt8 → Bool) (hf : Tryd.prog.funcs[f]? = some fn) (hnn : fn.name ≠ "runtime.NumGoroutine") (hb : fn.body.isSome = true) (ht : ByteTest f p) (l : List UInt8) (hl : l.length ≤ 1000000) : Spec Tryd.prog 57 [] [.x (.string (bs l)), .x (.func (.func f) #[] #[])] (fun r H' => r = .x (.int .i64 (spn p l : Nat)) ∧ H' = []) := by
  refine Spec_of Tryd.func57 rfl ?_
  simp only [Tryd.ntmps57, List.length_cons, List.length_nil, List.replicate_succ, List.replicate_zero, List.cons_append, List.nil_append, Nat.reduceAdd, Nat.reduceSub]
  (repeat' (first | with_reducible (first | refine awp_seq ?_ | refine awp_region ?_ | refine awp_block ?_ | refine awp_ret ?_ | refine awp_skip ?_ | refine awp_exit ?_ | refine awpL_nil ?_ | refine dr_nil ?_ | refine thenA_normal ?_ | refine thenA_exit ?_ | refine thenA_ret ?_ | refine inBlockA_eq ?_ | refine inBlockA_normal ?_ | refine inBlockA_ret ?_ | refine jumpA_normal ?_ | refine jumpA_exit ?_ | refine jumpA_ret ?_ | refine jumpA_goto ?_ | refine awp_goto ?_ | refine thenA_goto ?_ | refine inBlockA_goto ?_) | (with_reducible refine awp_drawnQ mixed ?_ ?_; (decide +kernel)) | (with_reducible refine inBlockA_ne ?_ ?_; (decide)) | (refine awp_cond _ rfl (fun h => ?_) (fun h => ?_) <;> first | (exact absurd h (by decide)) | ((try (simp only [whn] at h)); first | (exfalso; omega; done) | skip)) | ((first | apply awpL_gf rfl rfl rfl | apply dr_gf rfl rfl rfl); (case hT => ((try simp only [wtn, List.append_eq, List.foldl_cons, List.foldl_nil, List.map_cons, List.map_nil, Nat.reduceAdd, Nat.reduceMul, Nat.reduceSub, ↓reduceIte, Nat.reduceEqDiff]); rfl))) | ((first | apply awpL_evl2 rfl | apply dr_evl2 rfl | apply awpL_g2 _ _ rfl rfl rfl | apply dr_g2 _ _ rfl rfl rfl); (case h => ((try (intro (hp : (_ : Bool) = true); ((try simp only [Bool.and_eq_true, Bool.not_eq_true', Bool.not_eq_true] at hp); (try simp only [hp, wte]); (try simp only [whn] at hp)))); (first | (apply Evl_k 0 rfl; (first | exact Evl_mv _ rfl | exact Evl_as _ rfl)) | (apply Evl_k 1 rfl; (first | exact Evl_pickf _ _ _ rfl rfl | exact Evl_pickt _ _ _ rfl rfl | exact Evl_and _ _ _ _ _ rfl rfl rfl rfl | exact Evl_or _ _ _ _ _ rfl rfl rfl rfl | exact Evl_and' _ _ _ _ _ rfl rfl rfl rfl | exact Evl_or' _ _ _ _ _ rfl rfl rfl rfl)) | (apply Evl_k 2 rfl; (first | exact Evl_extract _ _ _ _ rfl rfl rfl)) | (apply Evl_k 3 rfl; (first | exact Evl_len _ _ _ _ _ _ HEl.out rfl rfl)) | (apply Evl_k 4 rfl; (first | exact Evl_nil _ rfl (by first | exact .inl ⟨_, rfl⟩ | exact .inr ⟨_, rfl⟩))) | (apply Evl_k 5 rfl; (first | exact Evl_field_x _ _ _ _ _ _ rfl rfl HFld.out | exact Evl_field_at _ _ _ _ _ rfl rfl HFld.out)) | (apply Evl_k 6 rfl; (first | exact Evl_load_at _ _ _ _ _ rfl rfl HAgg.out (by first | exact Nat.le_of_ble_eq_true rfl | (simp [wlq]; first | done | omega)) (by first | exact Nat.le_of_ble_eq_true rfl | (simp [wlq]; first | done | omega)) | exact Evl_load _ _ _ _ _ _ _ _ rfl rfl FBox.out HAgg.out (by first | exact Nat.le_of_ble_eq_true rfl | (simp [wlq]; first | done | omega)) (by first | exact Nat.le_of_ble_eq_true rfl | (simp [wlq]; first | done | omega)) | exact Evl_load_row _ _ _ _ _ _ _ _ _ _ _ _ rfl rfl FRow.out HAgg.out (by first | exact Nat.le_of_ble_eq_true rfl | (simp [wlq]; first | done | omega)) (by first | exact Nat.le_of_ble_eq_true rfl | (simp [wlq]; first | done | omega)))) | (apply Evl_k 7 rfl; (first | exact Evl_index_sq _ _ _ _ _ _ _ _ _ _ rfl rfl rfl HEl.out rfl (by first | omega | assumption) (by simp; first | done | omega) | exact Evl_index_own _ _ _ _ _ _ _ _ _ _ _ _ rfl rfl rfl HEl.out rfl (by first | omega | assumption))) | (apply Evl_k 8 rfl; (first | exact Evl_index_str _ _ _ _ _ _ _ rfl rfl rfl (by kernel_rfl) rfl (by omega))) | (apply Evl_k 9 rfl; (first | exact Evl_slice_str _ _ _ _ _ _ _ rfl rfl (by kernel_rfl) (by first | exact .inl ⟨rfl, rfl⟩ | exact .inr ⟨_, _, rfl, rfl⟩) (by first | exact .inl ⟨rfl, rfl⟩ | exact .inr ⟨_, _, rfl, rfl⟩) (by omega) (by omega) | exact Evl_slice_sq _ _ _ _ _ _ _ _ _ _ rfl rfl HEl.out (by first | exact .inl ⟨rfl, rfl⟩ | exact .inr ⟨_, _, rfl, rfl⟩) (by first | exact .inl ⟨rfl, rfl⟩ | exact .inr ⟨_, _, rfl, rfl⟩) (by omega) (by omega) | exact Evl_slice_own _ _ _ _ _ _ _ _ _ _ _ _ rfl rfl HEl.out (by first | exact .inl ⟨rfl, rfl⟩ | exact .inr ⟨_, _, rfl, rfl⟩) (by first | exact .inl ⟨rfl, rfl⟩ | exact .inr ⟨_, _, rfl, rfl⟩) (by omega) (by omega))) | (apply Evl_k 10 rfl; (first | exact Evl_build _ _ _ _ _ rfl HPl.out (by first | rfl | (simp; done)) rfl)) | (apply Evl_x; (case hs => (intro _ _ h; cases h)); (case hx => rfl); (case hrun => (intro w; simp [wtb, AV.val, go_sem]; (try go_bits); rfl)))))); (case hT => ((try simp only [wtn, List.append_eq, List.foldl_cons, List.foldl_nil, List.map_cons, List.map_nil, Nat.reduceAdd, Nat.reduceMul, Nat.reduceSub, ↓reduceIte, Nat.reduceEqDiff]); rfl))) | (refine awpL_cons rfl ?_; ((first | (refine Stp_k 13 rfl ?_; (first | (refine Stp_append _ _ _ _ _ _ _ _ _ _ _ _ _ _ rfl rfl FRow.out (Src.row _ rfl FRow.out) HElem.out (by first | rfl | (simp; first | done | omega)) (fits _ _ (by omega) (by decide)) (fun ad cap => ?_)) | (refine Stp_append _ _ _ _ _ _ _ _ _ _ _ _ _ _ rfl rfl FRow.out (Src.sq rfl) HElem.out (by first | rfl | (simp; first | done | omega)) (fits _ _ (by omega) (by decide)) (fun ad cap => ?_)))) | (refine Stp_k 14 rfl ?_; (first | (refine Stp_alloc _ _ rfl HZero.out rfl (fun b => ?_)))) | (refine Stp_k 15 rfl ?_; (first | (refine Stp_box _ _ rfl (by first | rfl | ((try simp only [wtn, List.append_eq, List.foldl_cons, List.foldl_nil, List.map_cons, List.map_nil, Nat.reduceAdd, Nat.reduceMul, Nat.reduceSub, ↓reduceIte, Nat.reduceEqDiff]); simp [won, Value.oneCell']; done)) (fun b => ?_)))) | (refine Stp_k 16 rfl ?_; (first | (refine Stp_store _ _ _ _ _ _ _ rfl rfl FBox.out HSize.out (by first | rfl | ((try simp only [wtn, List.append_eq, List.foldl_cons, List.foldl_nil, List.map_cons, List.map_nil, Nat.reduceAdd, Nat.reduceMul, Nat.reduceSub, ↓reduceIte, Nat.reduceEqDiff]); simp [won, Value.oneCell']; done)) (by first | exact Nat.le_of_ble_eq_true rfl | (simp [wlq]; first | done | omega)) ?_) | (refine Stp_store_row _ _ _ _ _ _ _ _ _ _ _ rfl rfl FRow.out HSize.out (by first | rfl | ((try simp only [wtn, List.append_eq, List.foldl_cons, List.foldl_nil, List.map_cons, List.map_nil, Nat.reduceAdd, Nat.reduceMul, Nat.reduceSub, ↓reduceIte, Nat.reduceEqDiff]); simp [won, Value.oneCell']; done)) (by first | exact Nat.le_of_ble_eq_true rfl | (simp [wlq]; first | done | omega)) ?_))) | (refine Stp_k 17 rfl ?_; (first | (refine Stp_buildSlice _ _ _ _ _ _ _ _ rfl HElem.out (by first | rfl | ((try simp only [wtn, List.append_eq, List.foldl_cons, List.foldl_nil, List.map_cons, List.map_nil, Nat.reduceAdd, Nat.reduceMul, Nat.reduceSub, ↓reduceIte, Nat.reduceEqDiff]); simp [won, Value.oneCell']; done)) rfl (by decide) rfl (fun b => ?_))))); apply awpL_cong; (case hT => ((try simp only [wtn, List.append_eq, List.foldl_cons, List.foldl_nil, List.map_cons, List.map_nil, Nat.reduceAdd, Nat.reduceMul, Nat.reduceSub, ↓reduceIte, Nat.reduceEqDiff]); rfl)); (case hH => ((try simp only [wtn, List.append_eq, List.foldl_cons, List.foldl_nil, List.map_cons, List.map_nil, Nat.reduceAdd, Nat.reduceMul, Nat.reduceSub, ↓reduceIte, Nat.reduceEqDiff]); rfl))))))
  refine awp_loopS (S := Nat) (fun k => frm 20 [(0, .x (.string (bs l))), (1, .x (.func (.func f) #[] #[])), (5, .x (.int .i64 k))]) (fun _ => []) (fun k => k ≤ l.length ∧ spn p l = k + spn p (l.drop k)) (fun k => l.length - k) 0 (Weak.mk' [] _ (List.Perm.refl _) (VwHs.refl _ _) (by (repeat' (first | exact VwL.nil | (refine VwL.cons ?_ ?_) | exact Vw.refl _ | exact Vw.top _ | exact Vw.nil | (refine Vw.eq ?_; first | rfl | (simp; done) | (congr 3; omega) | (congr 2; omega)))))) ⟨Nat.zero_le _, by simp⟩ fun k hk => ?_
  obtain ⟨h1, h2⟩ := hk
  have h2' := Lib.hid h2
  clear h2
  simp only [frm, List.replicate_succ, List.replicate_zero, List.foldl_cons, List.foldl_nil, List.set_cons_zero, List.set_cons_succ]
  by_cases hk : k < l.length
  · have hd := Lib.hid (drop_get l k hk)
    have htb := ht (l.getD k 0)
    cases hc : p (l.getD k 0) with
    | true =>
      rw [hc] at htb
      (repeat' (first | with_reducible (first | refine awp_seq ?_ | refine awp_region ?_ | refine awp_block ?_ | refine awp_ret ?_ | refine awp_skip ?_ | refine awp_exit ?_ | refine awpL_nil ?_ | refine dr_nil ?_ | refine thenA_normal ?_ | refine thenA_exit ?_ | refine thenA_ret ?_ | refine inBlockA_eq ?_ | refine inBlockA_normal ?_ | refine inBlockA_ret ?_ | refine jumpA_normal ?_ | refine jumpA_exit ?_ | refine jumpA_ret ?_ | refine jumpA_goto ?_ | refine awp_goto ?_ | refine thenA_goto ?_ | refine inBlockA_goto ?_) | (with_reducible refine awp_drawnQ mixed ?_ ?_; (decide +kernel)) | (with_reducible refine inBlockA_ne ?_ ?_; (decide)) | (refine awp_cond _ rfl (fun h => ?_) (fun h => ?_) <;> first | (exact absurd h (by decide)) | ((try (simp only [whn] at h)); first | (exfalso; omega; done) | skip)) | ((first | apply awpL_gf rfl rfl rfl | apply dr_gf rfl rfl rfl); (case hT => ((try simp only [wtn, List.append_eq, List.foldl_cons, List.foldl_nil, List.map_cons, List.map_nil, Nat.reduceAdd, Nat.reduceMul, Nat.reduceSub, ↓reduceIte, Nat.reduceEqDiff]); rfl))) | ((first | apply awpL_evl2 rfl | apply dr_evl2 rfl | apply awpL_g2 _ _ rfl rfl rfl | apply dr_g2 _ _ rfl rfl rfl); (case h => ((try (intro (hp : (_ : Bool) = true); ((try simp only [Bool.and_eq_true, Bool.not_eq_true', Bool.not_eq_true] at hp); (try simp only [hp, wte]); (try simp only [whn] at hp)))); (first | (apply Evl_k 0 rfl; (first | exact Evl_mv _ rfl | exact Evl_as _ rfl)) | (apply Evl_k 1 rfl; (first | exact Evl_pickf _ _ _ rfl rfl | exact Evl_pickt _ _ _ rfl rfl | exact Evl_and _ _ _ _ _ rfl rfl rfl rfl | exact Evl_or _ _ _ _ _ rfl rfl rfl rfl | exact Evl_and' _ _ _ _ _ rfl rfl rfl rfl | exact Evl_or' _ _ _ _ _ rfl rfl rfl rfl)) | (apply Evl_k 2 rfl; (first | exact Evl_extract _ _ _ _ rfl rfl rfl)) | (apply Evl_k 3 rfl; (first | exact Evl_len _ _ _ _ _ _ HEl.out rfl rfl)) | (apply Evl_k 4 rfl; (first | exact Evl_nil _ rfl (by first | exact .inl ⟨_, rfl⟩ | exact .inr ⟨_, rfl⟩))) | (apply Evl_k 5 rfl; (first | exact Evl_field_x _ _ _ _ _ _ rfl rfl HFld.out | exact Evl_field_at _ _ _ _ _ rfl rfl HFld.out)) | (apply Evl_k 6 rfl; (first | exact Evl_load_at _ _ _ _ _ rfl rfl HAgg.out (by first | exact Nat.le_of_ble_eq_true rfl | (simp [wlq]; first | done | omega)) (by first | exact Nat.le_of_ble_eq_true rfl | (simp [wlq]; first | done | omega)) | exact Evl_load _ _ _ _ _ _ _ _ rfl rfl FBox.out HAgg.out (by first | exact Nat.le_of_ble_eq_true rfl | (simp [wlq]; first | done | omega)) (by first | exact Nat.le_of_ble_eq_true rfl | (simp [wlq]; first | done | omega)) | exact Evl_load_row _ _ _ _ _ _ _ _ _ _ _ _ rfl rfl FRow.out HAgg.out (by first | exact Nat.le_of_ble_eq_true rfl | (simp [wlq]; first | done | omega)) (by first | exact Nat.le_of_ble_eq_true rfl | (simp [wlq]; first | done | omega)))) | (apply Evl_k 7 rfl; (first | exact Evl_index_sq _ _ _ _ _ _ _ _ _ _ rfl rfl rfl HEl.out rfl (by first | omega | assumption) (by simp; first | done | omega) | exact Evl_index_own _ _ _ _ _ _ _ _ _ _ _ _ rfl rfl rfl HEl.out rfl (by first | omega | assumption))) | (apply Evl_k 8 rfl; (first | exact Evl_index_str _ _ _ _ _ _ _ rfl rfl rfl (by kernel_rfl) rfl (by omega))) | (apply Evl_k 9 rfl; (first | exact Evl_slice_str _ _ _ _ _ _ _ rfl rfl (by kernel_rfl) (by first | exact .inl ⟨rfl, rfl⟩ | exact .inr ⟨_, _, rfl, rfl⟩) (by first | exact .inl ⟨rfl, rfl⟩ | exact .inr ⟨_, _, rfl, rfl⟩) (by omega) (by omega) | exact Evl_slice_sq _ _ _ _ _ _ _ _ _ _ rfl rfl HEl.out (by first | exact .inl ⟨rfl, rfl⟩ | exact .inr ⟨_, _, rfl, rfl⟩) (by first | exact .inl ⟨rfl, rfl⟩ | exact .inr ⟨_, _, rfl, rfl⟩) (by omega) (by omega) | exact Evl_slice_own _ _ _ _ _ _ _ _ _ _ _ _ rfl rfl HEl.out (by first | exact .inl ⟨rfl, rfl⟩ | exact .inr ⟨_, _, rfl, rfl⟩) (by first | exact .inl ⟨rfl, rfl⟩ | exact .inr ⟨_, _, rfl, rfl⟩) (by omega) (by omega))) | (apply Evl_k 10 rfl; (first | exact Evl_build _ _ _ _ _ rfl HPl.out (by first | rfl | (simp; done)) rfl)) | (apply Evl_k 11 rfl; (first | exact Evl_call f fn _ _ rfl rfl hf hnn hb (VwL.refl _ _) htb)) | (apply Evl_x; (case hs => (intro _ _ h; cases h)); (case hx => rfl); (case hrun => (intro w; simp [wtb, AV.val, go_sem]; (try go_bits); rfl)))))); (case hT => ((try simp only [wtn, List.append_eq, List.foldl_cons, List.foldl_nil, List.map_cons, List.map_nil, Nat.reduceAdd, Nat.reduceMul, Nat.reduceSub, ↓reduceIte, Nat.reduceEqDiff]); rfl))) | (refine awpL_cons rfl ?_; ((first | (refine Stp_k 13 rfl ?_; (first | (refine Stp_append _ _ _ _ _ _ _ _ _ _ _ _ _ _ rfl rfl FRow.out (Src.row _ rfl FRow.out) HElem.out (by first | rfl | (simp; first | done | omega)) (fits _ _ (by omega) (by decide)) (fun ad cap => ?_)) | (refine Stp_append _ _ _ _ _ _ _ _ _ _ _ _ _ _ rfl rfl FRow.out (Src.sq rfl) HElem.out (by first | rfl | (simp; first | done | omega)) (fits _ _ (by omega) (by decide)) (fun ad cap => ?_)))) | (refine Stp_k 14 rfl ?_; (first | (refine Stp_alloc _ _ rfl HZero.out rfl (fun b => ?_)))) | (refine Stp_k 15 rfl ?_; (first | (refine Stp_box _ _ rfl (by first | rfl | ((try simp only [wtn, List.append_eq, List.foldl_cons, List.foldl_nil, List.map_cons, List.map_nil, Nat.reduceAdd, Nat.reduceMul, Nat.reduceSub, ↓reduceIte, Nat.reduceEqDiff]); simp [won, Value.oneCell']; done)) (fun b => ?_)))) | (refine Stp_k 16 rfl ?_; (first | (refine Stp_store _ _ _ _ _ _ _ rfl rfl FBox.out HSize.out (by first | rfl | ((try simp only [wtn, List.append_eq, List.foldl_cons, List.foldl_nil, List.map_cons, List.map_nil, Nat.reduceAdd, Nat.reduceMul, Nat.reduceSub, ↓reduceIte, Nat.reduceEqDiff]); simp [won, Value.oneCell']; done)) (by first | exact Nat.le_of_ble_eq_true rfl | (simp [wlq]; first | done | omega)) ?_) | (refine Stp_store_row _ _ _ _ _ _ _ _ _ _ _ rfl rfl FRow.out HSize.out (by first | rfl | ((try simp only [wtn, List.append_eq, List.foldl_cons, List.foldl_nil, List.map_cons, List.map_nil, Nat.reduceAdd, Nat.reduceMul, Nat.reduceSub, ↓reduceIte, Nat.reduceEqDiff]); simp [won, Value.oneCell']; done)) (by first | exact Nat.le_of_ble_eq_true rfl | (simp [wlq]; first | done | omega)) ?_))) | (refine Stp_k 17 rfl ?_; (first | (refine Stp_buildSlice _ _ _ _ _ _ _ _ rfl HElem.out (by first | rfl | ((try simp only [wtn, List.append_eq, List.foldl_cons, List.foldl_nil, List.map_cons, List.map_nil, Nat.reduceAdd, Nat.reduceMul, Nat.reduceSub, ↓reduceIte, Nat.reduceEqDiff]); simp [won, Value.oneCell']; done)) rfl (by decide) rfl (fun b => ?_))))); apply awpL_cong; (case hT => ((try simp only [wtn, List.append_eq, List.foldl_cons, List.foldl_nil, List.map_cons, List.map_nil, Nat.reduceAdd, Nat.reduceMul, Nat.reduceSub, ↓reduceIte, Nat.reduceEqDiff]); rfl)); (case hH => ((try simp only [wtn, List.append_eq, List.foldl_cons, List.foldl_nil, List.map_cons, List.map_nil, Nat.reduceAdd, Nat.reduceMul, Nat.reduceSub, ↓reduceIte, Nat.reduceEqDiff]); rfl))))))
      refine ⟨k + 1, by omega, ⟨by omega, ?_⟩, (Weak.mk' [] _ (List.Perm.refl _) (VwHs.refl _ _) (by (repeat' (first | exact VwL.nil | (refine VwL.cons ?_ ?_) | exact Vw.refl _ | exact Vw.top _ | exact Vw.nil | (refine Vw.eq ?_; first | rfl | (simp; done) | (congr 3; omega) | (congr 2; omega))))))⟩
      rw [h2'.out, hd.out, spn_yes _ _ _ hc]; omega
    | false =>
      rw [hc] at htb
      (repeat' (first | with_reducible (first | refine awp_seq ?_ | refine awp_region ?_ | refine awp_block ?_ | refine awp_ret ?_ | refine awp_skip ?_ | refine awp_exit ?_ | refine awpL_nil ?_ | refine dr_nil ?_ | refine thenA_normal ?_ | refine thenA_exit ?_ | refine thenA_ret ?_ | refine inBlockA_eq ?_ | refine inBlockA_normal ?_ | refine inBlockA_ret ?_ | refine jumpA_normal ?_ | refine jumpA_exit ?_ | refine jumpA_ret ?_ | refine jumpA_goto ?_ | refine awp_goto ?_ | refine thenA_goto ?_ | refine inBlockA_goto ?_) | (with_reducible refine awp_drawnQ mixed ?_ ?_; (decide +kernel)) | (with_reducible refine inBlockA_ne ?_ ?_; (decide)) | (refine awp_cond _ rfl (fun h => ?_) (fun h => ?_) <;> first | (exact absurd h (by decide)) | ((try (simp only [whn] at h)); first | (exfalso; omega; done) | skip)) | ((first | apply awpL_gf rfl rfl rfl | apply dr_gf rfl rfl rfl); (case hT => ((try simp only [wtn, List.append_eq, List.foldl_cons, List.foldl_nil, List.map_cons, List.map_nil, Nat.reduceAdd, Nat.reduceMul, Nat.reduceSub, ↓reduceIte, Nat.reduceEqDiff]); rfl))) | ((first | apply awpL_evl2 rfl | apply dr_evl2 rfl | apply awpL_g2 _ _ rfl rfl rfl | apply dr_g2 _ _ rfl rfl rfl); (case h => ((try (intro (hp : (_ : Bool) = true); ((try simp only [Bool.and_eq_true, Bool.not_eq_true', Bool.not_eq_true] at hp); (try simp only [hp, wte]); (try simp only [whn] at hp)))); (first | (apply Evl_k 0 rfl; (first | exact Evl_mv _ rfl | exact Evl_as _ rfl)) | (apply Evl_k 1 rfl; (first | exact Evl_pickf _ _ _ rfl rfl | exact Evl_pickt _ _ _ rfl rfl | exact Evl_and _ _ _ _ _ rfl rfl rfl rfl | exact Evl_or _ _ _ _ _ rfl rfl rfl rfl | exact Evl_and' _ _ _ _ _ rfl rfl rfl rfl | exact Evl_or' _ _ _ _ _ rfl rfl rfl rfl)) | (apply Evl_k 2 rfl; (first | exact Evl_extract _ _ _ _ rfl rfl rfl)) | (apply Evl_k 3 rfl; (first | exact Evl_len _ _ _ _ _ _ HEl.out rfl rfl)) | (apply Evl_k 4 rfl; (first | exact Evl_nil _ rfl (by first | exact .inl ⟨_, rfl⟩ | exact .inr ⟨_, rfl⟩))) | (apply Evl_k 5 rfl; (first | exact Evl_field_x _ _ _ _ _ _ rfl rfl HFld.out | exact Evl_field_at _ _ _ _ _ rfl rfl HFld.out)) | (apply Evl_k 6 rfl; (first | exact Evl_load_at _ _ _ _ _ rfl rfl HAgg.out (by first | exact Nat.le_of_ble_eq_true rfl | (simp [wlq]; first | done | omega)) (by first | exact Nat.le_of_ble_eq_true rfl | (simp [wlq]; first | done | omega)) | exact Evl_load _ _ _ _ _ _ _ _ rfl rfl FBox.out HAgg.out (by first | exact Nat.le_of_ble_eq_true rfl | (simp [wlq]; first | done | omega)) (by first | exact Nat.le_of_ble_eq_true rfl | (simp [wlq]; first | done | omega)) | exact Evl_load_row _ _ _ _ _ _ _ _ _ _ _ _ rfl rfl FRow.out HAgg.out (by first | exact Nat.le_of_ble_eq_true rfl | (simp [wlq]; first | done | omega)) (by first | exact Nat.le_of_ble_eq_true rfl | (simp [wlq]; first | done | omega)))) | (apply Evl_k 7 rfl; (first | exact Evl_index_sq _ _ _ _ _ _ _ _ _ _ rfl rfl rfl HEl.out rfl (by first | omega | assumption) (by simp; first | done | omega) | exact Evl_index_own _ _ _ _ _ _ _ _ _ _ _ _ rfl rfl rfl HEl.out rfl (by first | omega | assumption))) | (apply Evl_k 8 rfl; (first | exact Evl_index_str _ _ _ _ _ _ _ rfl rfl rfl (by kernel_rfl) rfl (by omega))) | (apply Evl_k 9 rfl; (first | exact Evl_slice_str _ _ _ _ _ _ _ rfl rfl (by kernel_rfl) (by first | exact .inl ⟨rfl, rfl⟩ | exact .inr ⟨_, _, rfl, rfl⟩) (by first | exact .inl ⟨rfl, rfl⟩ | exact .inr ⟨_, _, rfl, rfl⟩) (by omega) (by omega) | exact Evl_slice_sq _ _ _ _ _ _ _ _ _ _ rfl rfl HEl.out (by first | exact .inl ⟨rfl, rfl⟩ | exact .inr ⟨_, _, rfl, rfl⟩) (by first | exact .inl ⟨rfl, rfl⟩ | exact .inr ⟨_, _, rfl, rfl⟩) (by omega) (by omega) | exact Evl_slice_own _ _ _ _ _ _ _ _ _ _ _ _ rfl rfl HEl.out (by first | exact .inl ⟨rfl, rfl⟩ | exact .inr ⟨_, _, rfl, rfl⟩) (by first | exact .inl ⟨rfl, rfl⟩ | exact .inr ⟨_, _, rfl, rfl⟩) (by omega) (by omega))) | (apply Evl_k 10 rfl; (first | exact Evl_build _ _ _ _ _ rfl HPl.out (by first | rfl | (simp; done)) rfl)) | (apply Evl_k 11 rfl; (first | exact Evl_call f fn _ _ rfl rfl hf hnn hb (VwL.refl _ _) htb)) | (apply Evl_x; (case hs => (intro _ _ h; cases h)); (case hx => rfl); (case hrun => (intro w; simp [wtb, AV.val, go_sem]; (try go_bits); rfl)))))); (case hT => ((try simp only [wtn, List.append_eq, List.foldl_cons, List.foldl_nil, List.map_cons, List.map_nil, Nat.reduceAdd, Nat.reduceMul, Nat.reduceSub, ↓reduceIte, Nat.reduceEqDiff]); rfl))) | (refine awpL_cons rfl ?_; ((first | (refine Stp_k 13 rfl ?_; (first | (refine Stp_append _ _ _ _ _ _ _ _ _ _ _ _ _ _ rfl rfl FRow.out (Src.row _ rfl FRow.out) HElem.out (by first | rfl | (simp; first | done | omega)) (fits _ _ (by omega) (by decide)) (fun ad cap => ?_)) | (refine Stp_append _ _ _ _ _ _ _ _ _ _ _ _ _ _ rfl rfl FRow.out (Src.sq rfl) HElem.out (by first | rfl | (simp; first | done | omega)) (fits _ _ (by omega) (by decide)) (fun ad cap => ?_)))) | (refine Stp_k 14 rfl ?_; (first | (refine Stp_alloc _ _ rfl HZero.out rfl (fun b => ?_)))) | (refine Stp_k 15 rfl ?_; (first | (refine Stp_box _ _ rfl (by first | rfl | ((try simp only [wtn, List.append_eq, List.foldl_cons, List.foldl_nil, List.map_cons, List.map_nil, Nat.reduceAdd, Nat.reduceMul, Nat.reduceSub, ↓reduceIte, Nat.reduceEqDiff]); simp [won, Value.oneCell']; done)) (fun b => ?_)))) | (refine Stp_k 16 rfl ?_; (first | (refine Stp_store _ _ _ _ _ _ _ rfl rfl FBox.out HSize.out (by first | rfl | ((try simp only [wtn, List.append_eq, List.foldl_cons, List.foldl_nil, List.map_cons, List.map_nil, Nat.reduceAdd, Nat.reduceMul, Nat.reduceSub, ↓reduceIte, Nat.reduceEqDiff]); simp [won, Value.oneCell']; done)) (by first | exact Nat.le_of_ble_eq_true rfl | (simp [wlq]; first | done | omega)) ?_) | (refine Stp_store_row _ _ _ _ _ _ _ _ _ _ _ rfl rfl FRow.out HSize.out (by first | rfl | ((try simp only [wtn, List.append_eq, List.foldl_cons, List.foldl_nil, List.map_cons, List.map_nil, Nat.reduceAdd, Nat.reduceMul, Nat.reduceSub, ↓reduceIte, Nat.reduceEqDiff]); simp [won, Value.oneCell']; done)) (by first | exact Nat.le_of_ble_eq_true rfl | (simp [wlq]; first | done | omega)) ?_))) | (refine Stp_k 17 rfl ?_; (first | (refine Stp_buildSlice _ _ _ _ _ _ _ _ rfl HElem.out (by first | rfl | ((try simp only [wtn, List.append_eq, List.foldl_cons, List.foldl_nil, List.map_cons, List.map_nil, Nat.reduceAdd, Nat.reduceMul, Nat.reduceSub, ↓reduceIte, Nat.reduceEqDiff]); simp [won, Value.oneCell']; done)) rfl (by decide) rfl (fun b => ?_))))); apply awpL_cong; (case hT => ((try simp only [wtn, List.append_eq, List.foldl_cons, List.foldl_nil, List.map_cons, List.map_nil, Nat.reduceAdd, Nat.reduceMul, Nat.reduceSub, ↓reduceIte, Nat.reduceEqDiff]); rfl)); (case hH => ((try simp only [wtn, List.append_eq, List.foldl_cons, List.foldl_nil, List.map_cons, List.map_nil, Nat.reduceAdd, Nat.reduceMul, Nat.reduceSub, ↓reduceIte, Nat.reduceEqDiff]); rfl))))))
      refine endA_ret _ _ (Res1 rfl (RV.tmp _) (Weak.mk' [] _ (List.Perm.refl _) (VwHs.refl _ _) (VwL.refl _ _))) ?_
      refine ⟨?_, rfl⟩
      rw [h2'.out, hd.out, spn_no _ _ _ hc]; rfl
  · have htb := ht 0
    (repeat' (first | with_reducible (first | refine awp_seq ?_ | refine awp_region ?_ | refine awp_block ?_ | refine awp_ret ?_ | refine awp_skip ?_ | refine awp_exit ?_ | refine awpL_nil ?_ | refine dr_nil ?_ | refine thenA_normal ?_ | refine thenA_exit ?_ | refine thenA_ret ?_ | refine inBlockA_eq ?_ | refine inBlockA_normal ?_ | refine inBlockA_ret ?_ | refine jumpA_normal ?_ | refine jumpA_exit ?_ | refine jumpA_ret ?_ | refine jumpA_goto ?_ | refine awp_goto ?_ | refine thenA_goto ?_ | refine inBlockA_goto ?_) | (with_reducible refine awp_drawnQ mixed ?_ ?_; (decide +kernel)) | (with_reducible refine inBlockA_ne ?_ ?_; (decide)) | (refine awp_cond _ rfl (fun h => ?_) (fun h => ?_) <;> first | (exact absurd h (by decide)) | ((try (simp only [whn] at h)); first | (exfalso; omega; done) | skip)) | ((first | apply awpL_gf rfl rfl rfl | apply dr_gf rfl rfl rfl); (case hT => ((try simp only [wtn, List.append_eq, List.foldl_cons, List.foldl_nil, List.map_cons, List.map_nil, Nat.reduceAdd, Nat.reduceMul, Nat.reduceSub, ↓reduceIte, Nat.reduceEqDiff]); rfl))) | ((first | apply awpL_evl2 rfl | apply dr_evl2 rfl | apply awpL_g2 _ _ rfl rfl rfl | apply dr_g2 _ _ rfl rfl rfl); (case h => ((try (intro (hp : (_ : Bool) = true); ((try simp only [Bool.and_eq_true, Bool.not_eq_true', Bool.not_eq_true] at hp); (try simp only [hp, wte]); (try simp only [whn] at hp)))); (first | (apply Evl_k 0 rfl; (first | exact Evl_mv _ rfl | exact Evl_as _ rfl)) | (apply Evl_k 1 rfl; (first | exact Evl_pickf _ _ _ rfl rfl | exact Evl_pickt _ _ _ rfl rfl | exact Evl_and _ _ _ _ _ rfl rfl rfl rfl | exact Evl_or _ _ _ _ _ rfl rfl rfl rfl | exact Evl_and' _ _ _ _ _ rfl rfl rfl rfl | exact Evl_or' _ _ _ _ _ rfl rfl rfl rfl)) | (apply Evl_k 2 rfl; (first | exact Evl_extract _ _ _ _ rfl rfl rfl)) | (apply Evl_k 3 rfl; (first | exact Evl_len _ _ _ _ _ _ HEl.out rfl rfl)) | (apply Evl_k 4 rfl; (first | exact Evl_nil _ rfl (by first | exact .inl ⟨_, rfl⟩ | exact .inr ⟨_, rfl⟩))) | (apply Evl_k 5 rfl; (first | exact Evl_field_x _ _ _ _ _ _ rfl rfl HFld.out | exact Evl_field_at _ _ _ _ _ rfl rfl HFld.out)) | (apply Evl_k 6 rfl; (first | exact Evl_load_at _ _ _ _ _ rfl rfl HAgg.out (by first | exact Nat.le_of_ble_eq_true rfl | (simp [wlq]; first | done | omega)) (by first | exact Nat.le_of_ble_eq_true rfl | (simp [wlq]; first | done | omega)) | exact Evl_load _ _ _ _ _ _ _ _ rfl rfl FBox.out HAgg.out (by first | exact Nat.le_of_ble_eq_true rfl | (simp [wlq]; first | done | omega)) (by first | exact Nat.le_of_ble_eq_true rfl | (simp [wlq]; first | done | omega)) | exact Evl_load_row _ _ _ _ _ _ _ _ _ _ _ _ rfl rfl FRow.out HAgg.out (by first | exact Nat.le_of_ble_eq_true rfl | (simp [wlq]; first | done | omega)) (by first | exact Nat.le_of_ble_eq_true rfl | (simp [wlq]; first | done | omega)))) | (apply Evl_k 7 rfl; (first | exact Evl_index_sq _ _ _ _ _ _ _ _ _ _ rfl rfl rfl HEl.out rfl (by first | omega | assumption) (by simp; first | done | omega) | exact Evl_index_own _ _ _ _ _ _ _ _ _ _ _ _ rfl rfl rfl HEl.out rfl (by first | omega | assumption))) | (apply Evl_k 8 rfl; (first | exact Evl_index_str _ _ _ _ _ _ _ rfl rfl rfl (by kernel_rfl) rfl (by omega))) | (apply Evl_k 9 rfl; (first | exact Evl_slice_str _ _ _ _ _ _ _ rfl rfl (by kernel_rfl) (by first | exact .inl ⟨rfl, rfl⟩ | exact .inr ⟨_, _, rfl, rfl⟩) (by first | exact .inl ⟨rfl, rfl⟩ | exact .inr ⟨_, _, rfl, rfl⟩) (by omega) (by omega) | exact Evl_slice_sq _ _ _ _ _ _ _ _ _ _ rfl rfl HEl.out (by first | exact .inl ⟨rfl, rfl⟩ | exact .inr ⟨_, _, rfl, rfl⟩) (by first | exact .inl ⟨rfl, rfl⟩ | exact .inr ⟨_, _, rfl, rfl⟩) (by omega) (by omega) | exact Evl_slice_own _ _ _ _ _ _ _ _ _ _ _ _ rfl rfl HEl.out (by first | exact .inl ⟨rfl, rfl⟩ | exact .inr ⟨_, _, rfl, rfl⟩) (by first | exact .inl ⟨rfl, rfl⟩ | exact .inr ⟨_, _, rfl, rfl⟩) (by omega) (by omega))) | (apply Evl_k 10 rfl; (first | exact Evl_build _ _ _ _ _ rfl HPl.out (by first | rfl | (simp; done)) rfl)) | (apply Evl_k 11 rfl; (first | exact Evl_call f fn _ (.x (.bool false)) rfl rfl hf hnn hb (VwL.refl _ _) (by exfalso; omega))) | (apply Evl_k 12 rfl; (first | (exfalso; clear htb; omega))) | (apply Evl_x; (case hs => (intro _ _ h; cases h)); (case hx => rfl); (case hrun => (intro w; simp [wtb, AV.val, go_sem]; (try go_bits); rfl)))))); (case hT => ((try simp only [wtn, List.append_eq, List.foldl_cons, List.foldl_nil, List.map_cons, List.map_nil, Nat.reduceAdd, Nat.reduceMul, Nat.reduceSub, ↓reduceIte, Nat.reduceEqDiff]); rfl))) | (refine awpL_cons rfl ?_; ((first | (refine Stp_k 13 rfl ?_; (first | (refine Stp_append _ _ _ _ _ _ _ _ _ _ _ _ _ _ rfl rfl FRow.out (Src.row _ rfl FRow.out) HElem.out (by first | rfl | (simp; first | done | omega)) (fits _ _ (by omega) (by decide)) (fun ad cap => ?_)) | (refine Stp_append _ _ _ _ _ _ _ _ _ _ _ _ _ _ rfl rfl FRow.out (Src.sq rfl) HElem.out (by first | rfl | (simp; first | done | omega)) (fits _ _ (by omega) (by decide)) (fun ad cap => ?_)))) | (refine Stp_k 14 rfl ?_; (first | (refine Stp_alloc _ _ rfl HZero.out rfl (fun b => ?_)))) | (refine Stp_k 15 rfl ?_; (first | (refine Stp_box _ _ rfl (by first | rfl | ((try simp only [wtn, List.append_eq, List.foldl_cons, List.foldl_nil, List.map_cons, List.map_nil, Nat.reduceAdd, Nat.reduceMul, Nat.reduceSub, ↓reduceIte, Nat.reduceEqDiff]); simp [won, Value.oneCell']; done)) (fun b => ?_)))) | (refine Stp_k 16 rfl ?_; (first | (refine Stp_store _ _ _ _ _ _ _ rfl rfl FBox.out HSize.out (by first | rfl | ((try simp only [wtn, List.append_eq, List.foldl_cons, List.foldl_nil, List.map_cons, List.map_nil, Nat.reduceAdd, Nat.reduceMul, Nat.reduceSub, ↓reduceIte, Nat.reduceEqDiff]); simp [won, Value.oneCell']; done)) (by first | exact Nat.le_of_ble_eq_true rfl | (simp [wlq]; first | done | omega)) ?_) | (refine Stp_store_row _ _ _ _ _ _ _ _ _ _ _ rfl rfl FRow.out HSize.out (by first | rfl | ((try simp only [wtn, List.append_eq, List.foldl_cons, List.foldl_nil, List.map_cons, List.map_nil, Nat.reduceAdd, Nat.reduceMul, Nat.reduceSub, ↓reduceIte, Nat.reduceEqDiff]); simp [won, Value.oneCell']; done)) (by first | exact Nat.le_of_ble_eq_true rfl | (simp [wlq]; first | done | omega)) ?_))) | (refine Stp_k 17 rfl ?_; (first | (refine Stp_buildSlice _ _ _ _ _ _ _ _ rfl HElem.out (by first | rfl | ((try simp only [wtn, List.append_eq, List.foldl_cons, List.foldl_nil, List.map_cons, List.map_nil, Nat.reduceAdd, Nat.reduceMul, Nat.reduceSub, ↓reduceIte, Nat.reduceEqDiff]); simp [won, Value.oneCell']; done)) rfl (by decide) rfl (fun b => ?_))))); apply awpL_cong; (case hT => ((try simp only [wtn, List.append_eq, List.foldl_cons, List.foldl_nil, List.map_cons, List.map_nil, Nat.reduceAdd, Nat.reduceMul, Nat.reduceSub, ↓reduceIte, Nat.reduceEqDiff]); rfl)); (case hH => ((try simp only [wtn, List.append_eq, List.foldl_cons, List.foldl_nil, List.map_cons, List.map_nil, Nat.reduceAdd, Nat.reduceMul, Nat.reduceSub, ↓reduceIte, Nat.reduceEqDiff]); rfl))))))
    refine endA_ret _ _ (Res1 rfl (RV.tmp _) (Weak.mk' [] _ (List.Perm.refl _) (VwHs.refl _ _) (VwL.refl _ _))) ?_
    refine ⟨?_, rfl⟩
    have e : l.drop k = [] := List.drop_eq_nil_of_le (by omega)
    rw [h2'.out, e]; rfl
/-- A scanner: the text, the next byte, its place. -/
def scc (t : List UInt8) (at_ line col : Int) : List AV := [.x (.string (bs t)), .x (.int .i64 at_), .x (.int .i64 line), .x (.int .i64 col)]
set_option maxRecDepth 100000 in
set_option maxHeartbeats 8000000 in
theorem advance_s (b : Nat) (t : List UInt8) (i line col : Int) (n : Nat) (hi : 0 ≤ i ∧ i ≤ 1000000) (hc : 0 ≤ col ∧ col ≤ 1000000) (hn : n ≤ 1000000) : Spec Tryd.prog 38 [.box b (scc t i line col)] [.x (.pointer (some ⟨b, 0, none⟩)), .x (.int .i64 n)] (fun r H' => H' = [.box b (scc t (i + n) line (col + n))]) := by
  unfold scc
  refine Spec_of Tryd.func38 rfl ?_
  simp only [Tryd.ntmps38, List.length_cons, List.length_nil, List.replicate_succ, List.replicate_zero, List.cons_append, List.nil_append, Nat.reduceAdd, Nat.reduceSub]
  (repeat' (first | with_reducible (first | refine awp_seq ?_ | refine awp_region ?_ | refine awp_block ?_ | refine awp_ret ?_ | refine awp_skip ?_ | refine awp_exit ?_ | refine awpL_nil ?_ | refine dr_nil ?_ | refine thenA_normal ?_ | refine thenA_exit ?_ | refine thenA_ret ?_ | refine inBlockA_eq ?_ | refine inBlockA_normal ?_ | refine inBlockA_ret ?_ | refine jumpA_normal ?_ | refine jumpA_exit ?_ | refine jumpA_ret ?_ | refine jumpA_goto ?_ | refine awp_goto ?_ | refine thenA_goto ?_ | refine inBlockA_goto ?_) | (with_reducible refine awp_drawnQ mixed ?_ ?_; (decide +kernel)) | (with_reducible refine inBlockA_ne ?_ ?_; (decide)) | (refine awp_cond _ rfl (fun h => ?_) (fun h => ?_) <;> first | (exact absurd h (by decide)) | ((try (simp only [whn] at h)); first | (exfalso; omega; done) | skip)) | ((first | apply awpL_gf rfl rfl rfl | apply dr_gf rfl rfl rfl); (case hT => ((try simp only [wtn, List.append_eq, List.foldl_cons, List.foldl_nil, List.map_cons, List.map_nil, Nat.reduceAdd, Nat.reduceMul, Nat.reduceSub, ↓reduceIte, Nat.reduceEqDiff]); rfl))) | ((first | apply awpL_evl2 rfl | apply dr_evl2 rfl | apply awpL_g2 _ _ rfl rfl rfl | apply dr_g2 _ _ rfl rfl rfl); (case h => ((try (intro (hp : (_ : Bool) = true); ((try simp only [Bool.and_eq_true, Bool.not_eq_true', Bool.not_eq_true] at hp); (try simp only [hp, wte]); (try simp only [whn] at hp)))); (first | (apply Evl_k 0 rfl; (first | exact Evl_mv _ rfl | exact Evl_as _ rfl)) | (apply Evl_k 1 rfl; (first | exact Evl_pickf _ _ _ rfl rfl | exact Evl_pickt _ _ _ rfl rfl | exact Evl_and _ _ _ _ _ rfl rfl rfl rfl | exact Evl_or _ _ _ _ _ rfl rfl rfl rfl | exact Evl_and' _ _ _ _ _ rfl rfl rfl rfl | exact Evl_or' _ _ _ _ _ rfl rfl rfl rfl)) | (apply Evl_k 2 rfl; (first | exact Evl_extract _ _ _ _ rfl rfl rfl)) | (apply Evl_k 3 rfl; (first | exact Evl_len _ _ _ _ _ _ HEl.out rfl rfl)) | (apply Evl_k 4 rfl; (first | exact Evl_nil _ rfl (by first | exact .inl ⟨_, rfl⟩ | exact .inr ⟨_, rfl⟩))) | (apply Evl_k 5 rfl; (first | exact Evl_field_x _ _ _ _ _ _ rfl rfl HFld.out | exact Evl_field_at _ _ _ _ _ rfl rfl HFld.out)) | (apply Evl_k 6 rfl; (first | exact Evl_load_at _ _ _ _ _ rfl rfl HAgg.out (by first | exact Nat.le_of_ble_eq_true rfl | (simp [wlq]; first | done | omega)) (by first | exact Nat.le_of_ble_eq_true rfl | (simp [wlq]; first | done | omega)) | exact Evl_load _ _ _ _ _ _ _ _ rfl rfl FBox.out HAgg.out (by first | exact Nat.le_of_ble_eq_true rfl | (simp [wlq]; first | done | omega)) (by first | exact Nat.le_of_ble_eq_true rfl | (simp [wlq]; first | done | omega)) | exact Evl_load_row _ _ _ _ _ _ _ _ _ _ _ _ rfl rfl FRow.out HAgg.out (by first | exact Nat.le_of_ble_eq_true rfl | (simp [wlq]; first | done | omega)) (by first | exact Nat.le_of_ble_eq_true rfl | (simp [wlq]; first | done | omega)))) | (apply Evl_k 7 rfl; (first | exact Evl_index_sq _ _ _ _ _ _ _ _ _ _ rfl rfl rfl HEl.out rfl (by first | omega | assumption) (by simp; first | done | omega) | exact Evl_index_own _ _ _ _ _ _ _ _ _ _ _ _ rfl rfl rfl HEl.out rfl (by first | omega | assumption))) | (apply Evl_k 8 rfl; (first | exact Evl_index_str _ _ _ _ _ _ _ rfl rfl rfl (by kernel_rfl) rfl (by omega))) | (apply Evl_k 9 rfl; (first | exact Evl_slice_str _ _ _ _ _ _ _ rfl rfl (by kernel_rfl) (by first | exact .inl ⟨rfl, rfl⟩ | exact .inr ⟨_, _, rfl, rfl⟩) (by first | exact .inl ⟨rfl, rfl⟩ | exact .inr ⟨_, _, rfl, rfl⟩) (by omega) (by omega) | exact Evl_slice_sq _ _ _ _ _ _ _ _ _ _ rfl rfl HEl.out (by first | exact .inl ⟨rfl, rfl⟩ | exact .inr ⟨_, _, rfl, rfl⟩) (by first | exact .inl ⟨rfl, rfl⟩ | exact .inr ⟨_, _, rfl, rfl⟩) (by omega) (by omega) | exact Evl_slice_own _ _ _ _ _ _ _ _ _ _ _ _ rfl rfl HEl.out (by first | exact .inl ⟨rfl, rfl⟩ | exact .inr ⟨_, _, rfl, rfl⟩) (by first | exact .inl ⟨rfl, rfl⟩ | exact .inr ⟨_, _, rfl, rfl⟩) (by omega) (by omega))) | (apply Evl_k 10 rfl; (first | exact Evl_build _ _ _ _ _ rfl HPl.out (by first | rfl | (simp; done)) rfl)) | (apply Evl_x; (case hs => (intro _ _ h; cases h)); (case hx => rfl); (case hrun => (intro w; simp [wtb, AV.val, go_sem]; (try go_bits); rfl)))))); (case hT => ((try simp only [wtn, List.append_eq, List.foldl_cons, List.foldl_nil, List.map_cons, List.map_nil, Nat.reduceAdd, Nat.reduceMul, Nat.reduceSub, ↓reduceIte, Nat.reduceEqDiff]); rfl))) | (refine awpL_cons rfl ?_; ((first | (refine Stp_k 13 rfl ?_; (first | (refine Stp_append _ _ _ _ _ _ _ _ _ _ _ _ _ _ rfl rfl FRow.out (Src.row _ rfl FRow.out) HElem.out (by first | rfl | (simp; first | done | omega)) (fits _ _ (by omega) (by decide)) (fun ad cap => ?_)) | (refine Stp_append _ _ _ _ _ _ _ _ _ _ _ _ _ _ rfl rfl FRow.out (Src.sq rfl) HElem.out (by first | rfl | (simp; first | done | omega)) (fits _ _ (by omega) (by decide)) (fun ad cap => ?_)))) | (refine Stp_k 14 rfl ?_; (first | (refine Stp_alloc _ _ rfl HZero.out rfl (fun b => ?_)))) | (refine Stp_k 15 rfl ?_; (first | (refine Stp_box _ _ rfl (by first | rfl | ((try simp only [wtn, List.append_eq, List.foldl_cons, List.foldl_nil, List.map_cons, List.map_nil, Nat.reduceAdd, Nat.reduceMul, Nat.reduceSub, ↓reduceIte, Nat.reduceEqDiff]); simp [won, Value.oneCell']; done)) (fun b => ?_)))) | (refine Stp_k 16 rfl ?_; (first | (refine Stp_store _ _ _ _ _ _ _ rfl rfl FBox.out HSize.out (by first | rfl | ((try simp only [wtn, List.append_eq, List.foldl_cons, List.foldl_nil, List.map_cons, List.map_nil, Nat.reduceAdd, Nat.reduceMul, Nat.reduceSub, ↓reduceIte, Nat.reduceEqDiff]); simp [won, Value.oneCell']; done)) (by first | exact Nat.le_of_ble_eq_true rfl | (simp [wlq]; first | done | omega)) ?_) | (refine Stp_store_row _ _ _ _ _ _ _ _ _ _ _ rfl rfl FRow.out HSize.out (by first | rfl | ((try simp only [wtn, List.append_eq, List.foldl_cons, List.foldl_nil, List.map_cons, List.map_nil, Nat.reduceAdd, Nat.reduceMul, Nat.reduceSub, ↓reduceIte, Nat.reduceEqDiff]); simp [won, Value.oneCell']; done)) (by first | exact Nat.le_of_ble_eq_true rfl | (simp [wlq]; first | done | omega)) ?_))) | (refine Stp_k 17 rfl ?_; (first | (refine Stp_buildSlice _ _ _ _ _ _ _ _ rfl HElem.out (by first | rfl | ((try simp only [wtn, List.append_eq, List.foldl_cons, List.foldl_nil, List.map_cons, List.map_nil, Nat.reduceAdd, Nat.reduceMul, Nat.reduceSub, ↓reduceIte, Nat.reduceEqDiff]); simp [won, Value.oneCell']; done)) rfl (by decide) rfl (fun b => ?_))))); apply awpL_cong; (case hT => ((try simp only [wtn, List.append_eq, List.foldl_cons, List.foldl_nil, List.map_cons, List.map_nil, Nat.reduceAdd, Nat.reduceMul, Nat.reduceSub, ↓reduceIte, Nat.reduceEqDiff]); rfl)); (case hH => ((try simp only [wtn, List.append_eq, List.foldl_cons, List.foldl_nil, List.map_cons, List.map_nil, Nat.reduceAdd, Nat.reduceMul, Nat.reduceSub, ↓reduceIte, Nat.reduceEqDiff]); rfl))))))
  exact endA_normal _ _ (Res0 rfl (Weak.mk' [] _ (List.Perm.refl _) (VwHs.refl _ _) (by (repeat' (first | exact VwL.nil | (refine VwL.cons ?_ ?_) | exact Vw.refl _ | exact Vw.top _ | exact Vw.nil | (refine Vw.eq ?_; first | rfl | (simp; done) | (congr 3; omega) | (congr 2; omega))))))) rfl
end Go.Proofs.YtfaljkenmbbbaaaDoor
/- jobmuxmill.Mod: the remainder, from 0 on. -/
namespace Go.Proofs.YtfaljkenmbbbaaaDoor
open Go.RowKit
set_option linter.unusedSimpArgs false
set_option linter.unusedVariables false
theorem tmod_neg {v n : Int} (hn : 0 < n) (h : v.tmod n < 0) : v.tmod n + n = v % n := by
  rw [Int.tmod_eq_emod] at *
  have := Int.emod_nonneg v (show n ≠ 0 by omega)
  split at h <;> rename_i hc <;> simp [hc] at *
  · omega
  · omega
theorem tmod_pos {v n : Int} (hn : 0 < n) (h : 0 ≤ v.tmod n) : v.tmod n = v % n := by
  rw [Int.tmod_eq_emod] at *
  have := Int.emod_lt_of_pos v hn
  split <;> rename_i hc <;> simp [hc] at *
  omega
theorem ret_i64 {a b : Int} (h : a = b) : Ending.returned (.int .i64 a) = .returned (.int .i64 b) := by rw [h]
set_option maxRecDepth 100000 in
set_option maxHeartbeats 800000 in
theorem mod_any (v n : Int) (w : World) (hn : 1 ≤ n) (hn2 : n ≤ 9223372036854775807) (hv : -9223372036854775808 ≤ v) (hv2 : v ≤ 9223372036854775807) :
    Calls Tryd.prog 16 #[.int .i64 v, .int .i64 n] w fun e w' => e = .returned (.int .i64 (v % n)) ∧ w = w' := by
  have h0 : ¬ n = 0 := by omega
  have h1 : v.tmod n < n := Int.tmod_lt_of_pos v (by omega)
  have h2 : -n < v.tmod n := by
    have := Int.lt_tmod_of_pos v (show 0 < n by omega); omega
  go_enter Tryd.func16, Tryd.ntmps16
  go_wp2
  all_goals go_ret
  · exact ⟨ret_i64 (tmod_neg (by omega) (by assumption)), rfl⟩
  · exact ⟨ret_i64 (tmod_pos (by omega) (by assumption)), rfl⟩
end Go.Proofs.YtfaljkenmbbbaaaDoor
/- strings.IndexByte and (*strings.Builder).String: the shelf's contracts, laid at the dump of round r7 by the kit's tools (lay-shelf.mjs, lay-plain.mjs). Their numbers are of that seat alone. -/
namespace Go.Proofs.YtfaljkenmbbbaaaDoor
open Go.Shelf
def lays169_ren : Go.Shelf.Ren := ⟨fun | 169 => 29 | n => n, fun | 70 => 71 | 9 => 9 | 0 => 0 | 72 => 73 | 37 => 38 | 127 => 110 | 3 => 3 | 5 => 5 | n => n, fun | n => n⟩
theorem lays169 : Go.Proofs.Lays.n169 Tryd.prog lays169_ren := {
  mixed := by kernel_rfl
  f169 := Tryd.func29.trans (congrArg some (by kernel_rfl))
  t0 := Tryd.underlying0
  a0 := Tryd.isAgg0
  z0 := Tryd.sizeOf0
  v0 := Tryd.zeroValue0
  t3 := Tryd.underlying3
  a3 := Tryd.isAgg3
  z3 := Tryd.sizeOf3
  v3 := Tryd.zeroValue3
  t9 := Tryd.underlying9
  a9 := Tryd.isAgg9
  z9 := Tryd.sizeOf9
  v9 := Tryd.zeroValue9
  t37 := Tryd.underlying38
  a37 := Tryd.isAgg38
  z37 := Tryd.sizeOf38
  v37 := Tryd.zeroValue38
  t70 := Tryd.underlying71
  a70 := Tryd.isAgg71
  z70 := Tryd.sizeOf71
  v70 := Tryd.zeroValue71
  t72 := Tryd.underlying73
  a72 := Tryd.isAgg73
  z72 := Tryd.sizeOf73
  v72 := Tryd.zeroValue73
  t127 := Tryd.underlying110
  a127 := Tryd.isAgg110
  z127 := Tryd.sizeOf110
  v127 := Tryd.zeroValue110 }
theorem Builder_Extra_169 : Builder.Extra Tryd.prog lays169_ren := {
  sizeBuilder := by kernel_rfl
  liesBuilder := by kernel_rfl
  t5 := Tryd.underlying5
  a5 := Tryd.isAgg5
  z5 := Tryd.sizeOf5
  v5 := Tryd.zeroValue5
  infoByte := by kernel_rfl
  cellsByte := by kernel_rfl
  sizeByte := by kernel_rfl
  neB5 := by decide }
open Go.RowKit in
theorem Builder_String (B b : Nat) (l : List UInt8) (w : World) (h : Lib.IsBuilder 73 5 B b (Lib.byteCells l) w) (h0 : l ≠ []) :
    Calls Tryd.prog 29 #[.pointer (some ⟨b, 0, none⟩)] w fun e w' => e = .returned (.string ⟨l.toArray⟩) ∧ Below B w w' := Go.Proofs.Any.Builder_String lays169 Builder_Extra_169 B b l w h h0
open Go.RowKit in
theorem Builder_String_empty (B b : Nat) (w : World) (h : Lib.IsBuilder 73 5 B b [] w) (hBw : B ≤ w.heap.size) :
    Calls Tryd.prog 29 #[.pointer (some ⟨b, 0, none⟩)] w fun e w' => e = .returned (.string ⟨#[]⟩) ∧ Below B w w' := Go.Proofs.Any.Builder_String_empty lays169 Builder_Extra_169 B b w h hBw
open Go.RowKit in
theorem Builder_String_any (B b : Nat) (l : List UInt8) (w : World) (h : Lib.IsBuilder 73 5 B b (Lib.byteCells l) w) (hBw : B ≤ w.heap.size) :
    Calls Tryd.prog 29 #[.pointer (some ⟨b, 0, none⟩)] w fun e w' => e = .returned (.string ⟨l.toArray⟩) ∧ Below B w w' := Go.Proofs.Any.Builder_String_any lays169 Builder_Extra_169 B b l w h hBw
def lays137_ren : Go.Shelf.Ren := ⟨fun | 137 => 55 | 217 => 79 | 266 => 89 | n => n, fun | 9 => 9 | 5 => 5 | 3 => 3 | n => n, fun | n => n⟩
theorem lays137 : Go.Proofs.Lays.n137 Tryd.prog lays137_ren := {
  mixed := by kernel_rfl
  f137 := Tryd.func55.trans (congrArg some (by kernel_rfl))
  f217 := Tryd.func79.trans (congrArg some (by kernel_rfl))
  f266 := Tryd.func89.trans (congrArg some (by kernel_rfl))
  t3 := Tryd.underlying3
  a3 := Tryd.isAgg3
  z3 := Tryd.sizeOf3
  v3 := Tryd.zeroValue3
  t5 := Tryd.underlying5
  a5 := Tryd.isAgg5
  z5 := Tryd.sizeOf5
  v5 := Tryd.zeroValue5
  t9 := Tryd.underlying9
  a9 := Tryd.isAgg9
  z9 := Tryd.sizeOf9
  v9 := Tryd.zeroValue9 }
open Go.RowKit in
theorem strings_IndexByte (s : ByteArray) (c : Int) (w : World) :
    Calls Tryd.prog 55 #[.string s, .int .u8 c] w fun e w' => e = .returned (.int .i64 (Lib.indexByte s.data.toList c.toNat.toUInt8)) ∧ w' = w := Go.Proofs.Any.strings_IndexByte lays137 s c w
end Go.Proofs.YtfaljkenmbbbaaaDoor
/- The program's lexer: skip. -/
namespace Go.Proofs.YtfaljkenmbbbaaaDoor
open Go.RowKit
set_option linter.unusedSimpArgs false
set_option linter.unusedVariables false
theorem indexByte_cmt (l : List UInt8) : (Lib.indexByte l 10 = -1 ∧ cmt l = l.length) ∨ Lib.indexByte l 10 = cmt l := by
  induction l with
  | nil => exact .inl ⟨rfl, rfl⟩
  | cons c r ih =>
    by_cases h : c.toNat = 10
    · have e : c = 10 := UInt8.toNat_inj.1 h
      subst e
      right
      rw [cmt_no _ _ h]
      rfl
    · have e : (c == 10) = false := by
        rw [beq_eq_false_iff_ne]
        intro e; subst e; exact h rfl
      rw [cmt_yes _ _ h]
      unfold Lib.indexByte
      rw [e]
      simp only [Bool.false_eq_true, if_false, List.length_cons]
      rcases ih with ⟨h1, h2⟩ | h1
      · left; simp [h1, h2]
      · right
        rw [h1]
        have : ((cmt r : Int) == -1) = false := by rw [beq_eq_false_iff_ne]; omega
        rw [this]
        simp
theorem indexByte_s (l : List UInt8) : Spec Tryd.prog 55 [] [.x (.string (bs l)), .x (.int .u8 10)] (fun r H' => r = .x (.int .i64 (Lib.indexByte l 10)) ∧ H' = []) :=
  Spec_calls (args := [.string (bs l), .int .u8 10]) (fun w => (strings_IndexByte (bs l) 10 w).mono fun e w' ⟨h1, h2⟩ => ⟨by rw [h1]; simp [bs], h2 ▸ Below.refl _ _⟩) []
end Go.Proofs.YtfaljkenmbbbaaaDoor
/- The tokens of a text, one after the other: what lies read. No program in sight. -/
namespace Go.Proofs.YtfaljkenmbbbaaaDoor
open Go.RowKit
set_option linter.unusedSimpArgs false
set_option linter.unusedVariables false
theorem plc_app' (p : Nat × Nat) (a b : List UInt8) : plc p (a ++ b) = plc (plc p a) b := by
  induction a generalizing p with
  | nil => rfl
  | cons c a ih => simp only [List.cons_append, plc]; exact ih _
theorem plc_at (l : List UInt8) (k s : Nat) : plc (plc (1, 1) (l.take k)) ((l.drop k).take s) = plc (1, 1) (l.take (k + s)) := by
  rw [← plc_app', ← List.take_add]
theorem skp_le' (l : List UInt8) : skp l ≤ l.length := by
  induction h : l.length using Nat.strongRecOn generalizing l with
  | _ n ih =>
    cases l with
    | nil => simp [skp_nil]
    | cons c r =>
      by_cases h1 : c.toNat = 32 ∨ c.toNat = 9 ∨ c.toNat = 10 ∨ c.toNat = 13
      · rw [skp_blank c r h1]
        have := ih r.length (by simp at h; omega) r rfl
        simp at h; omega
      · by_cases h2 : c.toNat = 35
        · rw [skp_cmt c r h2]
          have h3 := cmt_yes c r (by omega)
          have := ih ((c :: r).drop (cmt (c :: r))).length (by simp at h ⊢; omega) _ rfl
          have h4 := cmt_le (c :: r)
          rw [List.length_drop] at this
          omega
        · rw [skp_no c r h1 h2]; exact Nat.zero_le _
theorem one_le {l : List UInt8} {x : Int × List UInt8 × Nat} (h : one l = .ok x) : 1 ≤ x.2.2 ∧ x.2.2 ≤ l.length ∧ x.2.1.length ≤ l.length ∧ x.1 ≠ 6 := by
  cases l with
  | nil => simp [one] at h
  | cons c r =>
    have hs := fun p => spn_le p (c :: r)
    simp only [one] at h
    split at h
    · cases h
      rename_i hc
      have := spn_yes isWrd c r (by simp [isWrd, hc])
      refine ⟨by simp only; omega, hs _, by simp only [List.length_take]; omega, by simp⟩
    · split at h
      · rename_i hc
        have := spn_yes isDig c r hc
        split at h
        · cases h
        · cases h; refine ⟨by simp only; omega, hs _, by simp only [List.length_take]; omega, by simp⟩
      · split at h
        · cases hq : quo r with
          | none => rw [hq] at h; cases h
          | some y =>
            rw [hq] at h; cases h
            have := quo_le r y hq
            simp only [List.length_cons]
            refine ⟨by omega, by omega, by omega, by simp⟩
        · split at h
          · cases hq : sla r with
            | none => rw [hq] at h; cases h
            | some y =>
              rw [hq] at h; cases h
              have := sla_le r y hq
              simp only [List.length_cons]
              refine ⟨by omega, by omega, by omega, by simp⟩
          · split at h
            · cases h; simp
            · cases h
/-- The tokens ts lie read, at byte k. -/
structure LxAt (l : List UInt8) (k : Nat) (ts : List Tok) : Prop where
  le : k ≤ l.length
  cnt : ts.length ≤ 2000
  eq : lexGo (1, 1) 0 l = (lexGo (plc (1, 1) (l.take k)) ts.length (l.drop k)).map (ts ++ ·)
theorem except_map_id {ε α : Type} (x : Except ε α) (f : α → α) (h : ∀ a, f a = a) : x.map f = x := by cases x <;> simp [Except.map, h]
theorem LxAt.start (l : List UInt8) : LxAt l 0 [] where
  le := Nat.zero_le _
  cnt := Nat.zero_le _
  eq := by simp [plc, except_map_id]
section
variable {l : List UInt8} {k : Nat} {ts : List Tok}
/-- Where the next token begins. -/
def nxk (l : List UInt8) (k : Nat) : Nat := k + skp (l.drop k)
theorem nxk_le (h : k ≤ l.length) : nxk l k ≤ l.length := by
  have := skp_le' (l.drop k)
  rw [List.length_drop] at this
  unfold nxk; omega
theorem LxAt.fin (h : LxAt l k ts) (he : l.length ≤ nxk l k) : lexGo (1, 1) 0 l = .ok (ts ++ [⟨6, [], (plc (1, 1) (l.take (nxk l k))).1, (plc (1, 1) (l.take (nxk l k))).2⟩]) := by
  have hd : (l.drop k).drop (skp (l.drop k)) = [] := by
    rw [List.drop_drop]; exact List.drop_eq_nil_of_le (by unfold nxk at he; omega)
  rw [h.eq, lexGo_end _ _ _ hd]
  have : plc (plc (1, 1) (l.take k)) (l.drop k) = plc (1, 1) (l.take (nxk l k)) := by
    have h2 := plc_at l k (l.length - k)
    rw [List.take_of_length_le (show (l.drop k).length ≤ l.length - k by rw [List.length_drop]; exact Nat.le_refl _), List.take_of_length_le (show l.length ≤ k + (l.length - k) by omega)] at h2
    rw [h2, List.take_of_length_le he]
  rw [this]; rfl
theorem LxAt.cons (h : LxAt l k ts) (he : nxk l k < l.length) : ∃ c r, l.drop (nxk l k) = c :: r ∧ (l.drop k).drop (skp (l.drop k)) = c :: r := by
  refine ⟨l[nxk l k], l.drop (nxk l k + 1), List.drop_eq_getElem_cons he, ?_⟩
  rw [List.drop_drop]; exact List.drop_eq_getElem_cons he
theorem LxAt.bad (h : LxAt l k ts) {c : UInt8} {r : List UInt8} (hc : (l.drop k).drop (skp (l.drop k)) = c :: r) {e : Int} (h1 : one (c :: r) = .error e) : lexGo (1, 1) 0 l = .error ⟨e, (plc (1, 1) (l.take (nxk l k))).1, (plc (1, 1) (l.take (nxk l k))).2⟩ := by
  rw [h.eq, lexGo_bad _ _ _ c r e hc h1, plc_at]; rfl
theorem LxAt.full (h : LxAt l k ts) {c : UInt8} {r : List UInt8} (hc : (l.drop k).drop (skp (l.drop k)) = c :: r) {x : Int × List UInt8 × Nat} (h1 : one (c :: r) = .ok x) (hn : 2000 ≤ ts.length) : lexGo (1, 1) 0 l = .error ⟨1, (plc (1, 1) (l.take (nxk l k))).1, (plc (1, 1) (l.take (nxk l k))).2⟩ := by
  rw [h.eq, lexGo_full _ _ _ c r x hc h1 hn, plc_at]; rfl
theorem LxAt.next (h : LxAt l k ts) {c : UInt8} {r : List UInt8} (hc : (l.drop k).drop (skp (l.drop k)) = c :: r) {a : Int} {t : List UInt8} {m : Nat} (h1 : one (c :: r) = .ok (a, t, m)) (hn : ts.length < 2000) :
    LxAt l (nxk l k + m) (ts ++ [⟨a, t, (plc (1, 1) (l.take (nxk l k))).1, (plc (1, 1) (l.take (nxk l k))).2⟩]) := by
  obtain ⟨g1, g2, g3, g4⟩ := one_le h1
  simp only at g1 g2
  have hlen := congrArg List.length hc
  simp only [List.length_drop] at hlen
  have hle := h.le
  refine ⟨by unfold nxk; omega, by simp; omega, ?_⟩
  rw [h.eq, lexGo_one _ _ _ c r a t m hc h1 g1 hn, plc_at, plc_at]
  have e1 : (c :: r).drop m = l.drop (nxk l k + m) := by rw [← hc, List.drop_drop, List.drop_drop]; congr 1; unfold nxk; omega
  rw [e1, show k + (skp (l.drop k) + m) = nxk l k + m from by unfold nxk; omega]
  simp only [List.length_append, List.length_cons, List.length_nil, Nat.zero_add]
  cases lexGo (plc (1, 1) (l.take (nxk l k + m))) (ts.length + 1) (l.drop (nxk l k + m)) with
  | error e => rfl
  | ok y => simp only [Except.map, nxk, List.append_assoc, List.singleton_append]
end
/-- What is known of the tokens of a text: the last one is the end, and no other. -/
theorem lexGo_ok : ∀ (n : Nat) (p : Nat × Nat) (i : Nat) (l : List UInt8) (ts : List Tok), l.length ≤ n → lexGo p i l = .ok ts → ∃ qs e, ts = qs ++ [e] ∧ e.kind = 6 ∧ (∀ t ∈ qs, t.kind ≠ 6) ∧ ∀ t ∈ ts, t.text.length ≤ l.length
  | n, p, i, l, ts, hn, h => by
    cases hd : l.drop (skp l) with
    | nil =>
      rw [lexGo_end p i l hd] at h; cases h
      exact ⟨[], _, rfl, rfl, by simp, by simp⟩
    | cons c r =>
      have hlen := congrArg List.length hd
      simp only [List.length_drop, List.length_cons] at hlen
      cases h1 : one (c :: r) with
      | error e => rw [lexGo_bad p i l c r e hd h1] at h; cases h
      | ok x =>
        by_cases hi : 2000 ≤ i
        · rw [lexGo_full p i l c r x hd h1 hi] at h; cases h
        · obtain ⟨a, t, m⟩ := x
          obtain ⟨g1, g2, g3, g4⟩ := one_le h1
          simp only at g1 g2 g3 g4
          rw [lexGo_one p i l c r a t m hd h1 g1 (by omega)] at h
          cases hr : lexGo (plc p (l.take (skp l + m))) (i + 1) ((c :: r).drop m) with
          | error e => rw [hr] at h; cases h
          | ok y =>
            rw [hr] at h
            simp only [Except.map] at h
            cases h
            cases n with
            | zero => omega
            | succ n =>
              obtain ⟨qs, e, rfl, he, has, ht⟩ := lexGo_ok n _ _ _ y (by simp only [List.length_drop, List.length_cons]; omega) hr
              refine ⟨_ :: qs, e, rfl, he, ?_, ?_⟩
              · intro t ht
                rcases List.mem_cons.1 ht with rfl | ht
                · exact g4
                · exact has t ht
              · intro t ht2
                rcases List.mem_cons.1 ht2 with rfl | ht2
                · show t.length ≤ l.length
                  rw [List.length_cons] at g3; omega
                · have := ht t ht2
                  rw [List.length_drop, List.length_cons] at this; omega
end Go.Proofs.YtfaljkenmbbbaaaDoor
