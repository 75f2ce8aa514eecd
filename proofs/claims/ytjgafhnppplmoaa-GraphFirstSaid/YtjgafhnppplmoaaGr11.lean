/- The graph: ContainsFunc, order. -/
import Derived.Test.YtjgafhnppplmoaaGr10
namespace Go.Proofs.Ytjgafhnppplmoaa
open Go.RowKit
set_option linter.unusedSimpArgs false
set_option linter.unusedVariables false
theorem fiv_any {α : Type} (l : List α) (p : α → Bool) : decide (0 ≤ fiv (l.findIdx? p)) = l.any p := by
  cases h : l.findIdx? p with
  | none =>
    rw [List.findIdx?_eq_none_iff] at h
    have : l.any p = false := by rw [List.any_eq_false]; intro x hx; rw [h x hx]; simp
    rw [this]; rfl
  | some k =>
    obtain ⟨h1, h2, -⟩ := List.findIdx?_eq_some_iff_getElem.1 h
    have : l.any p = true := by rw [List.any_eq_true]; exact ⟨_, List.getElem_mem h1, h2⟩
    rw [this]
    simp [fiv]
set_option maxRecDepth 100000 in
set_option maxHeartbeats 8000000 in
theorem contf_spec (l : List Int) (H : List Hp) (g : Nat) (fn : Func) (cs : Array Value) (p : Int → Bool) (hl : l.length ≤ 1000000) (hf : Try.prog.funcs[g]? = some fn) (hnn : fn.name ≠ "runtime.NumGoroutine") (hb : fn.body.isSome = true)
    (hp : ∀ j ∈ l, Spec Try.prog g H (.x (.int .i64 j) :: cs.toList.map .x) (fun r H' => r = .x (.bool (p j)) ∧ H' = H)) :
    Spec Try.prog 46 H [.sq l.length (ia l), .x (.func (.func g) #[] cs)] (fun r H' => r = .x (.bool (l.any p)) ∧ H' = H) := by
  have hp := Lib.hid hp
  refine Spec_of Try.func46 rfl ?_
  simp only [Try.ntmps46, List.length_cons, List.length_nil, List.replicate_succ, List.replicate_zero, List.cons_append, List.nil_append, Nat.reduceAdd, Nat.reduceSub]
  (repeat' (first | with_reducible (first | refine awp_seq ?_ | refine awp_region ?_ | refine awp_block ?_ | refine awp_ret ?_ | refine awp_skip ?_ | refine awp_exit ?_ | refine awpL_nil ?_ | refine dr_nil ?_ | refine thenA_normal ?_ | refine thenA_exit ?_ | refine thenA_ret ?_ | refine inBlockA_eq ?_ | refine inBlockA_normal ?_ | refine inBlockA_ret ?_ | refine jumpA_normal ?_ | refine jumpA_exit ?_ | refine jumpA_ret ?_ | refine jumpA_goto ?_ | refine awp_goto ?_ | refine thenA_goto ?_ | refine inBlockA_goto ?_) | (with_reducible refine awp_drawnQ mixed ?_ ?_; (decide +kernel)) | (with_reducible refine inBlockA_ne ?_ ?_; (decide)) | (refine awp_cond _ rfl (fun h => ?_) (fun h => ?_) <;> first | (exact absurd h (by decide)) | ((try (simp only [whn] at h)); first | (exfalso; omega; done) | skip)) | ((first | apply awpL_gf rfl rfl rfl | apply dr_gf rfl rfl rfl); (case hT => ((try simp only [wtn, Nat.reduceAdd, Nat.reduceMul, Nat.reduceSub, ↓reduceIte, Nat.reduceEqDiff]); rfl))) | ((first | apply awpL_evl2 rfl | apply dr_evl2 rfl | apply awpL_g2 _ _ rfl rfl rfl | apply dr_g2 _ _ rfl rfl rfl); (case h => ((try (intro (hp : (_ : Bool) = true); ((try simp only [Bool.and_eq_true, Bool.not_eq_true', Bool.not_eq_true] at hp); (try simp only [hp, wte]); (try simp only [whn] at hp)))); (first | (apply Evl_k 0 rfl; (first | exact Evl_mv _ rfl | exact Evl_as _ rfl)) | (apply Evl_k 1 rfl; (first | exact Evl_pickf _ _ _ rfl rfl | exact Evl_pickt _ _ _ rfl rfl | exact Evl_and _ _ _ _ _ rfl rfl rfl rfl | exact Evl_or _ _ _ _ _ rfl rfl rfl rfl | exact Evl_and' _ _ _ _ _ rfl rfl rfl rfl | exact Evl_or' _ _ _ _ _ rfl rfl rfl rfl)) | (apply Evl_k 2 rfl; (first | exact Evl_extract _ _ _ _ rfl rfl rfl)) | (apply Evl_k 3 rfl; (first | exact Evl_len _ _ _ _ _ _ HEl.out rfl rfl)) | (apply Evl_k 4 rfl; (first | exact Evl_nil _ rfl (by first | exact .inl ⟨_, rfl⟩ | exact .inr ⟨_, rfl⟩))) | (apply Evl_k 5 rfl; (first | exact Evl_field_x _ _ _ _ _ _ rfl rfl HFld.out | exact Evl_field_at _ _ _ _ _ rfl rfl HFld.out)) | (apply Evl_k 6 rfl; (first | exact Evl_load_at _ _ _ _ _ rfl rfl HAgg.out (by first | exact Nat.le_of_ble_eq_true rfl | (simp [wlq]; first | done | omega)) (by first | exact Nat.le_of_ble_eq_true rfl | (simp [wlq]; first | done | omega)) | exact Evl_load _ _ _ _ _ _ _ _ rfl rfl FBox.out HAgg.out (by first | exact Nat.le_of_ble_eq_true rfl | (simp [wlq]; first | done | omega)) (by first | exact Nat.le_of_ble_eq_true rfl | (simp [wlq]; first | done | omega)) | exact Evl_load_row _ _ _ _ _ _ _ _ _ _ _ _ rfl rfl FRow.out HAgg.out (by first | exact Nat.le_of_ble_eq_true rfl | (simp [wlq]; first | done | omega)) (by first | exact Nat.le_of_ble_eq_true rfl | (simp [wlq]; first | done | omega)))) | (apply Evl_k 7 rfl; (first | exact Evl_index_sq _ _ _ _ _ _ _ _ _ _ rfl rfl rfl HEl.out rfl (by first | omega | assumption) (by simp; first | done | omega) | exact Evl_index_own _ _ _ _ _ _ _ _ _ _ _ _ rfl rfl rfl HEl.out rfl (by first | omega | assumption))) | (apply Evl_k 8 rfl; (first | exact Evl_index_str _ _ _ _ _ _ _ rfl rfl rfl (by kernel_rfl) rfl (by omega))) | (apply Evl_k 9 rfl; (first | exact Evl_slice_str _ _ _ _ _ _ _ rfl rfl (by kernel_rfl) (by first | exact .inl ⟨rfl, rfl⟩ | exact .inr ⟨_, _, rfl, rfl⟩) (by first | exact .inl ⟨rfl, rfl⟩ | exact .inr ⟨_, _, rfl, rfl⟩) (by omega) (by omega) | exact Evl_slice_sq _ _ _ _ _ _ _ _ _ _ rfl rfl HEl.out (by first | exact .inl ⟨rfl, rfl⟩ | exact .inr ⟨_, _, rfl, rfl⟩) (by first | exact .inl ⟨rfl, rfl⟩ | exact .inr ⟨_, _, rfl, rfl⟩) (by omega) (by omega) | exact Evl_slice_own _ _ _ _ _ _ _ _ _ _ _ _ rfl rfl HEl.out (by first | exact .inl ⟨rfl, rfl⟩ | exact .inr ⟨_, _, rfl, rfl⟩) (by first | exact .inl ⟨rfl, rfl⟩ | exact .inr ⟨_, _, rfl, rfl⟩) (by omega) (by omega))) | (apply Evl_k 10 rfl; (first | exact Evl_build _ _ _ _ _ rfl HPl.out (by first | rfl | (simp; done)) rfl)) | (apply Evl_x; (case hs => (intro _ _ h; cases h)); (case hx => rfl); (case hrun => (intro w; simp [wtb, AV.val, go_sem]; (try go_bits); rfl)))))); (case hT => ((try simp only [wtn, Nat.reduceAdd, Nat.reduceMul, Nat.reduceSub, ↓reduceIte, Nat.reduceEqDiff]); rfl))) | (refine awpL_cons rfl ?_; ((first | (refine Stp_k 11 rfl ?_; (first | (refine Stp_call 36 _ H [] _ _ rfl rfl Try.func36 (by decide) rfl (by simp) (VwL.refl _ _) (ifints_spec l H g fn cs p hl hf hnn hb hp.out) ?_; rintro _ _ ⟨rfl, rfl⟩))) | (refine Stp_k 13 rfl ?_; (first | (refine Stp_append _ _ _ _ _ _ _ _ _ _ _ _ _ _ rfl rfl FRow.out (Src.row _ rfl FRow.out) HElem.out (by first | rfl | (simp; first | done | omega)) (fits _ _ (by omega) (by decide)) (fun ad cap => ?_)) | (refine Stp_append _ _ _ _ _ _ _ _ _ _ _ _ _ _ rfl rfl FRow.out (Src.sq rfl) HElem.out (by first | rfl | (simp; first | done | omega)) (fits _ _ (by omega) (by decide)) (fun ad cap => ?_)))) | (refine Stp_k 14 rfl ?_; (first | (refine Stp_alloc _ _ rfl HZero.out rfl (fun b => ?_)))) | (refine Stp_k 15 rfl ?_; (first | (refine Stp_box _ _ rfl (by first | rfl | ((try simp only [wtn, Nat.reduceAdd, Nat.reduceMul, Nat.reduceSub, ↓reduceIte, Nat.reduceEqDiff]); simp [won, Value.oneCell']; done)) (fun b => ?_)))) | (refine Stp_k 16 rfl ?_; (first | (refine Stp_store _ _ _ _ _ _ _ rfl rfl FBox.out HSize.out (by first | rfl | ((try simp only [wtn, Nat.reduceAdd, Nat.reduceMul, Nat.reduceSub, ↓reduceIte, Nat.reduceEqDiff]); simp [won, Value.oneCell']; done)) (by first | exact Nat.le_of_ble_eq_true rfl | (simp [wlq]; first | done | omega)) ?_) | (refine Stp_store_row _ _ _ _ _ _ _ _ _ _ _ rfl rfl FRow.out HSize.out (by first | rfl | ((try simp only [wtn, Nat.reduceAdd, Nat.reduceMul, Nat.reduceSub, ↓reduceIte, Nat.reduceEqDiff]); simp [won, Value.oneCell']; done)) (by first | exact Nat.le_of_ble_eq_true rfl | (simp [wlq]; first | done | omega)) ?_))) | (refine Stp_k 17 rfl ?_; (first | (refine Stp_buildSlice _ _ _ _ _ _ _ _ rfl HElem.out (by first | rfl | ((try simp only [wtn, Nat.reduceAdd, Nat.reduceMul, Nat.reduceSub, ↓reduceIte, Nat.reduceEqDiff]); simp [won, Value.oneCell']; done)) rfl (by decide) rfl (fun b => ?_))))); apply awpL_cong; (case hT => ((try simp only [wtn, Nat.reduceAdd, Nat.reduceMul, Nat.reduceSub, ↓reduceIte, Nat.reduceEqDiff]); rfl)); (case hH => ((try simp only [wtn, Nat.reduceAdd, Nat.reduceMul, Nat.reduceSub, ↓reduceIte, Nat.reduceEqDiff]); rfl))))))
  refine endA_ret _ _ (Res1 rfl (RV.tmp _) (Weak.mk' [] _ (List.Perm.refl _) (VwHs.refl _ _) (VwL.refl _ _))) ?_
  exact ⟨by rw [← fiv_any]; rfl, rfl⟩
/-- What lies done, as marks. -/
def mks (l : List JA) (d : List Int) : List Bool := (List.range l.length).map fun (k : Nat) => d.contains (k : Int)
@[simp] theorem mks_len (l : List JA) (d : List Int) : (mks l d).length = l.length := by simp [mks]
theorem mks_get (l : List JA) (d : List Int) (k : Nat) (h : k < (mks l d).length) : (mks l d)[k] = d.contains (k : Int) := by simp [mks]
theorem mks_set (l : List JA) (d : List Int) (k : Nat) (h : k < l.length) : (mks l d).set k true = mks l (d ++ [(k : Int)]) := by
  apply List.ext_getElem?
  intro j
  rw [List.getElem?_set]
  unfold mks
  by_cases hj : k = j
  · subst hj; simp [h]
  · rw [if_neg hj]
    by_cases hl : j < l.length
    · simp [hl]; omega
    · rw [List.getElem?_eq_none (by simp; omega), List.getElem?_eq_none (by simp; omega)]
theorem mks_nil (l : List JA) : List.replicate l.length (AV.x (.bool false)) = ba (mks l []) := by
  unfold ba mks
  apply List.ext_getElem?
  intro j
  by_cases h : j < l.length <;> simp [List.getElem?_replicate, h]
theorem na_drop (l : List JA) (k : Nat) (h : k < l.length) : (na l).drop k = .sq (nds l k).length (ia (nds l k)) :: (na l).drop (k + 1) := by
  rw [List.drop_eq_getElem_cons (by simpa using h)]; simp [na]
/-- The first need that is not done. -/
theorem open_any (l : List JA) (d : List Int) (i : Nat) : ((nds l i).any fun k => !d.contains k) = !(nds l i).all (d.contains ·) := by
  simp [List.all_eq_not_any_not]
end Go.Proofs.Ytjgafhnppplmoaa
