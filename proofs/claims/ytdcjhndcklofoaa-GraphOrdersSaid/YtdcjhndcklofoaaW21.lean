import Derived.Test.YtdcjhndcklofoaaW20
/- The graph: the closure over what lies done; IndexFunc and ContainsFunc of ints. -/
namespace Go.Proofs.Ytdcjhndcklofoaa
open Go.RowKit
set_option linter.unusedSimpArgs false
set_option linter.unusedVariables false
def ba (l : List Bool) : List AV := l.map fun n => .x (.bool n)
@[simp] theorem ba_len (l : List Bool) : (ba l).length = l.length := by simp [ba]
theorem ba_drop (l : List Bool) (k : Nat) (h : k < l.length) : (ba l).drop k = .x (.bool l[k]) :: ba (l.drop (k + 1)) := by
  rw [ba, ← List.map_drop, List.drop_eq_getElem_cons h]; rfl
theorem spl_ba (l : List Bool) (k : Nat) (v : Bool) (h : k < l.length) : spl (ba l) k [.x (.bool v)] = ba (l.set k v) := by
  unfold spl ba
  rw [List.length_singleton, List.set_eq_take_append_cons_drop, if_pos h]
  simp
/-- What lies done: a variable that holds a row of bools. -/
abbrev brow (b c n cap : Nat) (l : List Bool) : List Hp := [.box b [.x (.slice (some ⟨c, 0, none⟩) n cap)], .row (some ⟨c, 0, none⟩) n cap 4 1 (ba l)]
set_option maxRecDepth 100000 in
set_option maxHeartbeats 8000000 in
theorem order1_spec (b c n cap : Nat) (l : List Bool) (k : Nat) (hn : n = l.length) (hk : k < l.length) : Spec Try.prog 30 (brow b c n cap l) [.x (.int .i64 k), .x (.pointer (some ⟨b, 0, none⟩))] (fun r H' => r = .x (.bool (!l[k])) ∧ H' = brow b c n cap l) := by
  subst hn
  refine Spec_of Try.func30 rfl ?_
  simp only [Try.ntmps30, List.length_cons, List.length_nil, List.replicate_succ, List.replicate_zero, List.cons_append, List.nil_append, Nat.reduceAdd, Nat.reduceSub]
  (repeat' (first | with_reducible (first | refine awp_seq ?_ | refine awp_region ?_ | refine awp_ret ?_ | refine awpL_nil ?_ | refine thenA_normal ?_) | ((apply awpL_evl2 rfl); (case h => ((try (intro (hp : (_ : Bool) = true); ((try simp only [Bool.and_eq_true, Bool.not_eq_true', Bool.not_eq_true] at hp); (try simp only [hp, wte]); (try simp only [whn] at hp)))); (first | (apply Evl_k 0 rfl; (first | exact Evl_mv _ rfl | exact Evl_as _ rfl)) | (apply Evl_k 6 rfl; (first | exact Evl_load _ _ _ _ _ _ _ _ rfl rfl FBox.out HAgg.out (by first | exact Nat.le_of_ble_eq_true rfl | fail) (by first | exact Nat.le_of_ble_eq_true rfl | fail) | exact Evl_load_row _ _ _ _ _ _ _ _ _ _ _ _ rfl rfl FRow.out HAgg.out (by first | (simp [wlq]; omega) | fail) (by first | (simp [wlq]; omega) | fail))) | (apply Evl_k 7 rfl; (exact Evl_index_own _ _ _ _ _ _ _ _ _ _ _ _ rfl rfl rfl HEl.out rfl (by first | omega | fail))) | (apply Evl_x; (case hs => (intro _ _ h; cases h)); (case hx => rfl); (case hrun => (intro w; simp [wtb, AV.val, go_sem]; (try go_bits); rfl)))))); (case hT => ((try simp (disch := assumption) only [wtn, ba_drop, List.append_eq, List.foldl_cons, List.foldl_nil, List.map_cons, List.map_nil, Nat.reduceAdd, Nat.reduceMul, Nat.reduceSub, ↓reduceIte, Nat.reduceEqDiff]); rfl))) | fail))
  refine endA_ret _ _ (Res1 rfl (RV.tmp _) (Weak.mk' [] _ (List.Perm.refl _) (VwHs.refl _ _) (VwL.refl _ _))) ?_
  exact ⟨rfl, rfl⟩
set_option maxRecDepth 100000 in
set_option maxHeartbeats 8000000 in
theorem cycle1_spec (b c n cap : Nat) (l : List Bool) (k : Nat) (hn : n = l.length) (hk : k < l.length) : Spec Try.prog 21 (brow b c n cap l) [.x (.int .i64 k), .x (.pointer (some ⟨b, 0, none⟩))] (fun r H' => r = .x (.bool (!l[k])) ∧ H' = brow b c n cap l) := by
  subst hn
  refine Spec_of Try.func21 rfl ?_
  simp only [Try.ntmps21, List.length_cons, List.length_nil, List.replicate_succ, List.replicate_zero, List.cons_append, List.nil_append, Nat.reduceAdd, Nat.reduceSub]
  (repeat' (first | with_reducible (first | refine awp_seq ?_ | refine awp_region ?_ | refine awp_ret ?_ | refine awpL_nil ?_ | refine thenA_normal ?_) | ((apply awpL_evl2 rfl); (case h => ((try (intro (hp : (_ : Bool) = true); ((try simp only [Bool.and_eq_true, Bool.not_eq_true', Bool.not_eq_true] at hp); (try simp only [hp, wte]); (try simp only [whn] at hp)))); (first | (apply Evl_k 0 rfl; (first | exact Evl_mv _ rfl | exact Evl_as _ rfl)) | (apply Evl_k 6 rfl; (first | exact Evl_load _ _ _ _ _ _ _ _ rfl rfl FBox.out HAgg.out (by first | exact Nat.le_of_ble_eq_true rfl | fail) (by first | exact Nat.le_of_ble_eq_true rfl | fail) | exact Evl_load_row _ _ _ _ _ _ _ _ _ _ _ _ rfl rfl FRow.out HAgg.out (by first | (simp [wlq]; omega) | fail) (by first | (simp [wlq]; omega) | fail))) | (apply Evl_k 7 rfl; (exact Evl_index_own _ _ _ _ _ _ _ _ _ _ _ _ rfl rfl rfl HEl.out rfl (by first | omega | fail))) | (apply Evl_x; (case hs => (intro _ _ h; cases h)); (case hx => rfl); (case hrun => (intro w; simp [wtb, AV.val, go_sem]; (try go_bits); rfl)))))); (case hT => ((try simp (disch := assumption) only [wtn, ba_drop, List.append_eq, List.foldl_cons, List.foldl_nil, List.map_cons, List.map_nil, Nat.reduceAdd, Nat.reduceMul, Nat.reduceSub, ↓reduceIte, Nat.reduceEqDiff]); rfl))) | fail))
  refine endA_ret _ _ (Res1 rfl (RV.tmp _) (Weak.mk' [] _ (List.Perm.refl _) (VwHs.refl _ _) (VwL.refl _ _))) ?_
  exact ⟨rfl, rfl⟩
set_option maxRecDepth 100000 in
set_option maxHeartbeats 8000000 in
theorem ifints_spec (l : List Int) (H : List Hp) (g : Nat) (fn : Func) (cs : Array Value) (p : Int → Bool) (hl : l.length ≤ 1000000) (hf : Try.prog.funcs[g]? = some fn) (hnn : fn.name ≠ "runtime.NumGoroutine") (hb : fn.body.isSome = true)
    (hp : ∀ j ∈ l, Spec Try.prog g H (.x (.int .i64 j) :: cs.toList.map .x) (fun r H' => r = .x (.bool (p j)) ∧ H' = H)) :
    Spec Try.prog 25 H [.sq l.length (ia l), .x (.func (.func g) #[] cs)] (fun r H' => r = .x (.int .i64 (fiv (l.findIdx? p))) ∧ H' = H) := by
  have hp := Lib.hid hp
  refine Spec_of Try.func25 rfl ?_
  simp only [Try.ntmps25, List.length_cons, List.length_nil, List.replicate_succ, List.replicate_zero, List.cons_append, List.nil_append, Nat.reduceAdd, Nat.reduceSub]
  (repeat' (first | with_reducible (first | refine awp_seq ?_ | refine awp_region ?_ | refine awp_block ?_ | refine awpL_nil ?_ | refine thenA_normal ?_) | ((apply awpL_evl2 rfl); (case h => ((try (intro (hp : (_ : Bool) = true); ((try simp only [Bool.and_eq_true, Bool.not_eq_true', Bool.not_eq_true] at hp); (try simp only [hp, wte]); (try simp only [whn] at hp)))); (first | (apply Evl_k 0 rfl; (first | exact Evl_mv _ rfl | exact Evl_as _ rfl)) | (apply Evl_k 3 rfl; (exact Evl_len _ _ _ _ _ _ HEl.out rfl rfl))))); (case hT => ((try simp only [wtn, List.append_eq, List.foldl_cons, List.foldl_nil, List.map_cons, List.map_nil, Nat.reduceAdd, Nat.reduceMul, Nat.reduceSub, ↓reduceIte, Nat.reduceEqDiff]); rfl))) | fail))
  refine awp_loopS (S := Nat) (fun k => frm 19 [(0, .sq l.length (ia l)), (1, .x (.func (.func g) #[] cs)), (7, .x (.int .i64 l.length)), (8, .x (.int .i64 k))]) (fun _ => H) (fun k => k ≤ l.length ∧ ∀ j ∈ l.take k, p j = false) (fun k => l.length - k) 0 (Weak.mk' [] _ (List.Perm.refl _) (VwHs.refl _ _) (by (repeat' (first | exact VwL.nil | (refine VwL.cons ?_ ?_) | exact Vw.refl _ | exact Vw.top _ | fail)))) ⟨Nat.zero_le _, by simp⟩ fun k hk => ?_
  simp only [frm, List.replicate_succ, List.replicate_zero, List.foldl_cons, List.foldl_nil, List.set_cons_zero, List.set_cons_succ]
  obtain ⟨hk, hn⟩ := hk
  have hn := Lib.hid hn
  (repeat' (first | with_reducible (first | refine awp_seq ?_ | refine awp_region ?_ | refine awp_block ?_ | refine awp_ret ?_ | refine awp_skip ?_ | refine awp_exit ?_ | refine awpL_nil ?_ | refine thenA_normal ?_ | refine thenA_exit ?_ | refine thenA_ret ?_ | refine inBlockA_eq ?_ | refine inBlockA_normal ?_ | refine inBlockA_ret ?_) | (refine awp_cond _ rfl (fun h => ?_) (fun h => ?_) <;> ((try (simp only [whn] at h)); skip)) | ((apply awpL_evl2 rfl); (case h => ((try (intro (hp : (_ : Bool) = true); ((try simp only [Bool.and_eq_true, Bool.not_eq_true', Bool.not_eq_true] at hp); (try simp only [hp, wte]); (try simp only [whn] at hp)))); (first | (apply Evl_k 0 rfl; (first | exact Evl_mv _ rfl | exact Evl_as _ rfl)) | (apply Evl_k 6 rfl; (exact Evl_load_at _ _ _ _ _ rfl rfl HAgg.out (by first | exact Nat.le_of_ble_eq_true rfl | fail) (by first | exact Nat.le_of_ble_eq_true rfl | fail))) | (apply Evl_k 7 rfl; (exact Evl_index_sq _ _ _ _ _ _ _ _ _ _ rfl rfl rfl HEl.out rfl (by first | omega | fail) (by simp; first | omega | fail))) | (apply Evl_x; (case hs => (intro _ _ h; cases h)); (case hx => rfl); (case hrun => (intro w; simp [wtb, AV.val, go_sem]; (try go_bits); rfl)))))); (case hT => ((try simp (disch := assumption) only [wtn, ia_drop, List.append_eq, List.foldl_cons, List.foldl_nil, List.map_cons, List.map_nil, Nat.reduceAdd, Nat.reduceMul, Nat.reduceSub, ↓reduceIte, Nat.reduceEqDiff]); rfl))) | (refine awpL_cons rfl ?_; (((refine Stp_k 11 rfl ?_; ((refine Stp_call g fn H [] _ _ rfl rfl hf hnn hb (by simp) (VwL.refl _ _) (hp.out l[k] (List.getElem_mem h)) ?_; rintro _ _ ⟨rfl, rfl⟩)))); apply awpL_cong; (case hT => ((try simp (disch := omega) only [wtn, ia_drop, List.append_eq, List.foldl_cons, List.foldl_nil, List.map_cons, List.map_nil, Nat.reduceAdd, Nat.reduceMul, Nat.reduceSub, ↓reduceIte, Nat.reduceEqDiff]); rfl)); (case hH => ((try simp (disch := omega) only [wtn, ia_drop, List.append_eq, List.foldl_cons, List.foldl_nil, List.map_cons, List.map_nil, Nat.reduceAdd, Nat.reduceMul, Nat.reduceSub, ↓reduceIte, Nat.reduceEqDiff]); rfl)))) | fail))
  · refine endA_ret _ _ (Res1 rfl (RV.tmp _) (Weak.mk' [] _ (List.Perm.refl _) (VwHs.refl _ _) (VwL.refl _ _))) ?_
    exact ⟨by rw [fi_some p (by assumption) hn.out h]; rfl, rfl⟩
  · exact ⟨k + 1, by omega, ⟨by omega, by rw [take_snoc' l k (by assumption)]; intro j hj; simp only [List.mem_append, List.mem_singleton] at hj; rcases hj with hj | rfl; exact hn.out j hj; exact h⟩, (Weak.mk' [] _ (List.Perm.refl _) (VwHs.refl _ _) (by (repeat' (first | exact VwL.nil | (refine VwL.cons ?_ ?_) | exact Vw.refl _ | exact Vw.top _ | fail))))⟩
  · refine endA_ret _ _ (Res1 rfl (RV.tmp _) (Weak.mk' [] _ (List.Perm.refl _) (VwHs.refl _ _) (VwL.refl _ _))) ?_
    have hn := hn.out
    rw [List.take_of_length_le (by omega)] at hn
    exact ⟨by rw [fi_none p hn]; rfl, rfl⟩
end Go.Proofs.Ytdcjhndcklofoaa
/- The graph: ContainsFunc, order. -/
namespace Go.Proofs.Ytdcjhndcklofoaa
open Go.RowKit
set_option linter.unusedSimpArgs false
set_option linter.unusedVariables false
theorem fiv_any {α : Type} (l : List α) (p : α → Bool) : decide (0 ≤ fiv (l.findIdx? p)) = l.any p := by
  cases h : l.findIdx? p with
  | none =>
    rw [List.findIdx?_eq_none_iff] at h
    have : l.any p = false := by rw [List.any_eq_false]; intro x hx; rw [h x hx]; simp
    rw [this]; rfl
  | some k =>
    obtain ⟨h1, h2, -⟩ := List.findIdx?_eq_some_iff_getElem.1 h
    have : l.any p = true := by rw [List.any_eq_true]; exact ⟨_, List.getElem_mem h1, h2⟩
    rw [this]
    simp [fiv]
set_option maxRecDepth 100000 in
set_option maxHeartbeats 8000000 in
theorem contf_spec (l : List Int) (H : List Hp) (g : Nat) (fn : Func) (cs : Array Value) (p : Int → Bool) (hl : l.length ≤ 1000000) (hf : Try.prog.funcs[g]? = some fn) (hnn : fn.name ≠ "runtime.NumGoroutine") (hb : fn.body.isSome = true)
    (hp : ∀ j ∈ l, Spec Try.prog g H (.x (.int .i64 j) :: cs.toList.map .x) (fun r H' => r = .x (.bool (p j)) ∧ H' = H)) :
    Spec Try.prog 31 H [.sq l.length (ia l), .x (.func (.func g) #[] cs)] (fun r H' => r = .x (.bool (l.any p)) ∧ H' = H) := by
  have hp := Lib.hid hp
  refine Spec_of Try.func31 rfl ?_
  simp only [Try.ntmps31, List.length_cons, List.length_nil, List.replicate_succ, List.replicate_zero, List.cons_append, List.nil_append, Nat.reduceAdd, Nat.reduceSub]
  (repeat' (first | with_reducible (first | refine awp_seq ?_ | refine awp_region ?_ | refine awp_ret ?_ | refine awpL_nil ?_ | refine thenA_normal ?_) | ((apply awpL_evl2 rfl); (case h => ((try (intro (hp : (_ : Bool) = true); ((try simp only [Bool.and_eq_true, Bool.not_eq_true', Bool.not_eq_true] at hp); (try simp only [hp, wte]); (try simp only [whn] at hp)))); (first | (apply Evl_k 0 rfl; (first | exact Evl_mv _ rfl | exact Evl_as _ rfl)) | (apply Evl_x; (case hs => (intro _ _ h; cases h)); (case hx => rfl); (case hrun => (intro w; simp [wtb, AV.val, go_sem]; (try go_bits); rfl)))))); (case hT => ((try simp only [wtn, List.append_eq, List.foldl_cons, List.foldl_nil, List.map_cons, List.map_nil, Nat.reduceAdd, Nat.reduceMul, Nat.reduceSub, ↓reduceIte, Nat.reduceEqDiff]); rfl))) | (refine awpL_cons rfl ?_; (((refine Stp_k 11 rfl ?_; ((refine Stp_call 25 _ H [] _ _ rfl rfl Try.func25 (by decide) rfl (by simp) (VwL.refl _ _) (ifints_spec l H g fn cs p hl hf hnn hb hp.out) ?_; rintro _ _ ⟨rfl, rfl⟩)))); apply awpL_cong; (case hT => ((try simp only [wtn, List.append_eq, List.foldl_cons, List.foldl_nil, List.map_cons, List.map_nil, Nat.reduceAdd, Nat.reduceMul, Nat.reduceSub, ↓reduceIte, Nat.reduceEqDiff]); rfl)); (case hH => ((try simp only [wtn, List.append_eq, List.foldl_cons, List.foldl_nil, List.map_cons, List.map_nil, Nat.reduceAdd, Nat.reduceMul, Nat.reduceSub, ↓reduceIte, Nat.reduceEqDiff]); rfl)))) | fail))
  refine endA_ret _ _ (Res1 rfl (RV.tmp _) (Weak.mk' [] _ (List.Perm.refl _) (VwHs.refl _ _) (VwL.refl _ _))) ?_
  exact ⟨by rw [← fiv_any]; rfl, rfl⟩
/-- What lies done, as marks. -/
def mks (l : List JA) (d : List Int) : List Bool := (List.range l.length).map fun (k : Nat) => d.contains (k : Int)
@[simp] theorem mks_len (l : List JA) (d : List Int) : (mks l d).length = l.length := by simp [mks]
theorem mks_get (l : List JA) (d : List Int) (k : Nat) (h : k < (mks l d).length) : (mks l d)[k] = d.contains (k : Int) := by simp [mks]
theorem mks_set (l : List JA) (d : List Int) (k : Nat) (h : k < l.length) : (mks l d).set k true = mks l (d ++ [(k : Int)]) := by
  apply List.ext_getElem?
  intro j
  rw [List.getElem?_set]
  unfold mks
  by_cases hj : k = j
  · subst hj; simp [h]
  · rw [if_neg hj]
    by_cases hl : j < l.length
    · simp [hl]; omega
    · rw [List.getElem?_eq_none (by simp; omega), List.getElem?_eq_none (by simp; omega)]
theorem mks_nil (l : List JA) : List.replicate l.length (AV.x (.bool false)) = ba (mks l []) := by
  unfold ba mks
  apply List.ext_getElem?
  intro j
  by_cases h : j < l.length <;> simp [List.getElem?_replicate, h]
theorem na_drop (l : List JA) (k : Nat) (h : k < l.length) : (na l).drop k = .sq (nds l k).length (ia (nds l k)) :: (na l).drop (k + 1) := by
  rw [List.drop_eq_getElem_cons (by simpa using h)]; simp [na]
/-- The first need that is not done. -/
theorem open_any (l : List JA) (d : List Int) (i : Nat) : ((nds l i).any fun k => !d.contains k) = !(nds l i).all (d.contains ·) := by
  simp [List.all_eq_not_any_not]
end Go.Proofs.Ytdcjhndcklofoaa
