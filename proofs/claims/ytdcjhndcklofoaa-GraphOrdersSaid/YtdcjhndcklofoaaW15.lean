import Derived.Test.YtdcjhndcklofoaaW14
/- The graph: Index of the program, by IndexFunc and a closure. -/
namespace Go.Proofs.Ytdcjhndcklofoaa
open Go.RowKit
set_option linter.unusedSimpArgs false
set_option linter.unusedVariables false
set_option maxRecDepth 100000 in
set_option maxHeartbeats 8000000 in
theorem index1_spec (j : JA) (b : Nat) (s : List UInt8) : Spec Try.prog 39 [.box b [.x (.string (bs s))]] [.agg j.cells, .x (.pointer (some ⟨b, 0, none⟩))] (fun r H' => r = .x (.bool (j.name == s)) ∧ H' = [.box b [.x (.string (bs s))]]) := by
  have h1 := j.one
  refine Spec_of Try.func39 rfl ?_
  simp only [Try.ntmps39, List.length_cons, List.length_nil, List.replicate_succ, List.replicate_zero, List.cons_append, List.nil_append, Nat.reduceAdd, Nat.reduceSub]
  (repeat' (first | with_reducible (first | refine awp_seq ?_ | refine awp_region ?_ | refine awp_ret ?_ | refine awpL_nil ?_ | refine thenA_normal ?_) | ((apply awpL_evl2 rfl); (case h => ((try (intro (hp : (_ : Bool) = true); ((try simp only [Bool.and_eq_true, Bool.not_eq_true', Bool.not_eq_true] at hp); (try simp only [hp, wte]); (try simp only [whn] at hp)))); (first | (apply Evl_k 0 rfl; (exact Evl_as _ rfl)) | (apply Evl_k 5 rfl; (exact Evl_field_x _ _ _ _ _ _ rfl rfl HFld.out)) | (apply Evl_k 6 rfl; (exact Evl_load _ _ _ _ _ _ _ _ rfl rfl FBox.out HAgg.out (by first | exact Nat.le_of_ble_eq_true rfl | fail) (by first | exact Nat.le_of_ble_eq_true rfl | fail))) | (apply Evl_x; (case hs => (intro _ _ h; cases h)); (case hx => rfl); (case hrun => (intro w; simp [wtb, AV.val, go_sem]; (try go_bits); rfl)))))); (case hT => ((try simp (disch := omega) only [wtn, JA.cells, h1, List.append_eq, List.foldl_cons, List.foldl_nil, List.map_cons, List.map_nil, Nat.reduceAdd, Nat.reduceMul, Nat.reduceSub, ↓reduceIte, Nat.reduceEqDiff]); rfl))) | (refine awpL_cons rfl ?_; (((refine Stp_k 15 rfl ?_; ((refine Stp_box _ _ rfl (by first | ((try simp (disch := omega) only [wtn, JA.cells, h1, List.append_eq, List.foldl_cons, List.foldl_nil, List.map_cons, List.map_nil, Nat.reduceAdd, Nat.reduceMul, Nat.reduceSub, ↓reduceIte, Nat.reduceEqDiff]); simp [won, Value.oneCell', JA.cells, h1]; done) | fail) (fun b => ?_))))); apply awpL_cong; (case hT => ((try simp (disch := omega) only [wtn, JA.cells, h1, List.append_eq, List.foldl_cons, List.foldl_nil, List.map_cons, List.map_nil, Nat.reduceAdd, Nat.reduceMul, Nat.reduceSub, ↓reduceIte, Nat.reduceEqDiff]); rfl)); (case hH => ((try simp (disch := omega) only [wtn, JA.cells, h1, List.append_eq, List.foldl_cons, List.foldl_nil, List.map_cons, List.map_nil, Nat.reduceAdd, Nat.reduceMul, Nat.reduceSub, ↓reduceIte, Nat.reduceEqDiff]); rfl)))) | fail))
  refine endA_ret _ _ (Res1 rfl (RV.tmp _) (Weak.mk' [_] [_] (List.Perm.refl _) (VwHs.refl _ _) (by first | exact VwL.refl _ _ | fail))) ?_
  exact ⟨rfl, rfl⟩
def fiv (o : Option Nat) : Int := match o with | some k => k | none => -1
theorem fi_some {α : Type} {l : List α} (p : α → Bool) {k : Nat} (hk : k < l.length) (hn : ∀ j ∈ l.take k, p j = false) (h : p l[k] = true) : fiv (l.findIdx? p) = k := by
  have : l.findIdx? p = some k := by
    rw [List.findIdx?_eq_some_iff_getElem]
    refine ⟨hk, h, fun j hj => ?_⟩
    have := hn l[j] (List.mem_iff_getElem.2 ⟨j, by simp; omega, by simp⟩)
    simp [this]
  rw [this]; rfl
theorem fi_none {α : Type} {l : List α} (p : α → Bool) (hn : ∀ j ∈ l, p j = false) : fiv (l.findIdx? p) = -1 := by
  have : l.findIdx? p = none := by
    rw [List.findIdx?_eq_none_iff]
    intro j hj; simp [hn j hj]
  rw [this]; rfl
set_option maxRecDepth 100000 in
set_option maxHeartbeats 8000000 in
theorem ifjobs_spec (l : List JA) (H : List Hp) (g : Nat) (fn : Func) (cs : Array Value) (p : JA → Bool) (hl : l.length ≤ 1000000) (hf : Try.prog.funcs[g]? = some fn) (hnn : fn.name ≠ "runtime.NumGoroutine") (hb : fn.body.isSome = true)
    (hp : ∀ j ∈ l, Spec Try.prog g H (.agg j.cells :: cs.toList.map .x) (fun r H' => r = .x (.bool (p j)) ∧ H' = H)) :
    Spec Try.prog 38 H [.sq l.length (ja l), .x (.func (.func g) #[] cs)] (fun r H' => r = .x (.int .i64 (fiv (l.findIdx? p))) ∧ H' = H) := by
  have hp := Lib.hid hp
  refine Spec_of Try.func38 rfl ?_
  simp only [Try.ntmps38, List.length_cons, List.length_nil, List.replicate_succ, List.replicate_zero, List.cons_append, List.nil_append, Nat.reduceAdd, Nat.reduceSub]
  (repeat' (first | with_reducible (first | refine awp_seq ?_ | refine awp_region ?_ | refine awp_block ?_ | refine awpL_nil ?_ | refine thenA_normal ?_) | ((apply awpL_evl2 rfl); (case h => ((try (intro (hp : (_ : Bool) = true); ((try simp only [Bool.and_eq_true, Bool.not_eq_true', Bool.not_eq_true] at hp); (try simp only [hp, wte]); (try simp only [whn] at hp)))); (first | (apply Evl_k 0 rfl; (first | exact Evl_mv _ rfl | exact Evl_as _ rfl)) | (apply Evl_k 3 rfl; (exact Evl_len _ _ _ _ _ _ HEl.out rfl rfl))))); (case hT => ((try simp only [wtn, List.append_eq, List.foldl_cons, List.foldl_nil, List.map_cons, List.map_nil, Nat.reduceAdd, Nat.reduceMul, Nat.reduceSub, ↓reduceIte, Nat.reduceEqDiff]); rfl))) | fail))
  refine awp_loopS (S := Nat) (fun k => frm 19 [(0, .sq l.length (ja l)), (1, .x (.func (.func g) #[] cs)), (7, .x (.int .i64 l.length)), (8, .x (.int .i64 k))]) (fun _ => H) (fun k => k ≤ l.length ∧ ∀ j ∈ l.take k, p j = false) (fun k => l.length - k) 0 (Weak.mk' [] _ (List.Perm.refl _) (VwHs.refl _ _) (by (repeat' (first | exact VwL.nil | (refine VwL.cons ?_ ?_) | exact Vw.refl _ | exact Vw.top _ | fail)))) ⟨Nat.zero_le _, by simp⟩ fun k hk => ?_
  simp only [frm, List.replicate_succ, List.replicate_zero, List.foldl_cons, List.foldl_nil, List.set_cons_zero, List.set_cons_succ]
  obtain ⟨hk, hn⟩ := hk
  have hn := Lib.hid hn
  (repeat' (first | with_reducible (first | refine awp_seq ?_ | refine awp_region ?_ | refine awp_block ?_ | refine awp_ret ?_ | refine awp_skip ?_ | refine awp_exit ?_ | refine awpL_nil ?_ | refine thenA_normal ?_ | refine thenA_exit ?_ | refine thenA_ret ?_ | refine inBlockA_eq ?_ | refine inBlockA_normal ?_ | refine inBlockA_ret ?_) | (refine awp_cond _ rfl (fun h => ?_) (fun h => ?_) <;> ((try (simp only [whn] at h)); skip)) | ((apply awpL_evl2 rfl); (case h => ((try (intro (hp : (_ : Bool) = true); ((try simp only [Bool.and_eq_true, Bool.not_eq_true', Bool.not_eq_true] at hp); (try simp only [hp, wte]); (try simp only [whn] at hp)))); (first | (apply Evl_k 0 rfl; (first | exact Evl_mv _ rfl | exact Evl_as _ rfl)) | (apply Evl_k 6 rfl; (exact Evl_load_at _ _ _ _ _ rfl rfl HAgg.out (by first | exact Nat.le_of_ble_eq_true rfl | fail) (by first | exact Nat.le_of_ble_eq_true rfl | fail))) | (apply Evl_k 7 rfl; (exact Evl_index_sq _ _ _ _ _ _ _ _ _ _ rfl rfl rfl HEl.out rfl (by first | omega | fail) (by simp; first | omega | fail))) | (apply Evl_x; (case hs => (intro _ _ h; cases h)); (case hx => rfl); (case hrun => (intro w; simp [wtb, AV.val, go_sem]; (try go_bits); rfl)))))); (case hT => ((try simp (disch := assumption) only [wtn, ja_drop, JA.cells, List.append_eq, List.foldl_cons, List.foldl_nil, List.map_cons, List.map_nil, Nat.reduceAdd, Nat.reduceMul, Nat.reduceSub, ↓reduceIte, Nat.reduceEqDiff]); rfl))) | (refine awpL_cons rfl ?_; (((refine Stp_k 11 rfl ?_; ((refine Stp_call g fn H [] _ _ rfl rfl hf hnn hb (by simp) (VwL.refl _ _) (hp.out l[k] (List.getElem_mem h)) ?_; rintro _ _ ⟨rfl, rfl⟩)))); apply awpL_cong; (case hT => ((try simp (disch := omega) only [wtn, ja_drop, JA.cells, List.append_eq, List.foldl_cons, List.foldl_nil, List.map_cons, List.map_nil, Nat.reduceAdd, Nat.reduceMul, Nat.reduceSub, ↓reduceIte, Nat.reduceEqDiff]); rfl)); (case hH => ((try simp (disch := omega) only [wtn, ja_drop, JA.cells, List.append_eq, List.foldl_cons, List.foldl_nil, List.map_cons, List.map_nil, Nat.reduceAdd, Nat.reduceMul, Nat.reduceSub, ↓reduceIte, Nat.reduceEqDiff]); rfl)))) | fail))
  · refine endA_ret _ _ (Res1 rfl (RV.tmp _) (Weak.mk' [] _ (List.Perm.refl _) (VwHs.refl _ _) (VwL.refl _ _))) ?_
    exact ⟨by rw [fi_some p (by assumption) hn.out h]; rfl, rfl⟩
  · exact ⟨k + 1, by omega, ⟨by omega, by rw [take_snoc' l k (by assumption)]; intro j hj; simp only [List.mem_append, List.mem_singleton] at hj; rcases hj with hj | rfl; exact hn.out j hj; exact h⟩, (Weak.mk' [] _ (List.Perm.refl _) (VwHs.refl _ _) (by (repeat' (first | exact VwL.nil | (refine VwL.cons ?_ ?_) | exact Vw.refl _ | exact Vw.top _ | fail))))⟩
  · refine endA_ret _ _ (Res1 rfl (RV.tmp _) (Weak.mk' [] _ (List.Perm.refl _) (VwHs.refl _ _) (VwL.refl _ _))) ?_
    have hn := hn.out
    rw [List.take_of_length_le (by omega)] at hn
    exact ⟨by rw [fi_none p hn]; rfl, rfl⟩
set_option maxRecDepth 100000 in
set_option maxHeartbeats 8000000 in
theorem index_spec (l : List JA) (s : List UInt8) (hl : l.length ≤ 1000000) : Spec Try.prog 34 [] [.sq l.length (ja l), .x (.string (bs s))] (fun r H' => r = .x (.int .i64 (idx l s)) ∧ H' = []) := by
  refine Spec_of Try.func34 rfl ?_
  simp only [Try.ntmps34, List.length_cons, List.length_nil, List.replicate_succ, List.replicate_zero, List.cons_append, List.nil_append, Nat.reduceAdd, Nat.reduceSub]
  (repeat' (first | with_reducible (first | refine awp_seq ?_ | refine awp_region ?_ | refine awp_ret ?_ | refine awpL_nil ?_ | refine thenA_normal ?_) | ((apply awpL_evl2 rfl); (case h => ((try (intro (hp : (_ : Bool) = true); ((try simp only [Bool.and_eq_true, Bool.not_eq_true', Bool.not_eq_true] at hp); (try simp only [hp, wte]); (try simp only [whn] at hp)))); (first | (apply Evl_k 0 rfl; (first | exact Evl_mv _ rfl | exact Evl_as _ rfl)) | (apply Evl_x; (case hs => (intro _ _ h; cases h)); (case hx => rfl); (case hrun => (intro w; simp [wtb, AV.val, go_sem]; (try go_bits); rfl)))))); (case hT => ((try simp only [wtn, List.append_eq, List.foldl_cons, List.foldl_nil, List.map_cons, List.map_nil, Nat.reduceAdd, Nat.reduceMul, Nat.reduceSub, ↓reduceIte, Nat.reduceEqDiff]); rfl))) | (refine awpL_cons rfl ?_; ((first | (refine Stp_k 11 rfl ?_; ((refine Stp_call 38 _ [.box b [.x (.string (bs s))]] [] _ _ rfl rfl Try.func38 (by decide) rfl (List.Perm.refl _) (VwL.refl _ _) (ifjobs_spec l _ 39 _ #[.pointer (some ⟨b, 0, none⟩)] (fun j => j.name == s) hl Try.func39 (by decide) rfl (fun j _ => index1_spec j b s)) ?_; rintro _ _ ⟨rfl, rfl⟩))) | (refine Stp_k 15 rfl ?_; ((refine Stp_box _ _ rfl (by first | rfl | fail) (fun b => ?_))))); apply awpL_cong; (case hT => ((try simp only [wtn, List.append_eq, List.foldl_cons, List.foldl_nil, List.map_cons, List.map_nil, Nat.reduceAdd, Nat.reduceMul, Nat.reduceSub, ↓reduceIte, Nat.reduceEqDiff]); rfl)); (case hH => ((try simp only [wtn, List.append_eq, List.foldl_cons, List.foldl_nil, List.map_cons, List.map_nil, Nat.reduceAdd, Nat.reduceMul, Nat.reduceSub, ↓reduceIte, Nat.reduceEqDiff]); rfl)))) | fail))
  refine endA_ret _ _ (Res1 rfl (RV.tmp _) (Weak.mk' [_] [] (List.Perm.refl _) (VwHs.refl _ _) (by first | exact VwL.refl _ _ | fail))) ?_
  exact ⟨rfl, rfl⟩
end Go.Proofs.Ytdcjhndcklofoaa
/- The graph: what a job needs, by the reference. -/
namespace Go.Proofs.Ytdcjhndcklofoaa
open Go.RowKit
set_option linter.unusedSimpArgs false
set_option linter.unusedVariables false
/-- Does job i need job k. -/
def wnt (l : List JA) (i : Nat) (k : Int) : Bool := match l[i]? with | some j => j.needs.any fun s => idx l s == k | none => false
theorem idx_lo (l : List JA) (s : List UInt8) : -1 ≤ idx l s ∧ idx l s < l.length := by
  unfold idx
  split
  · rename_i k h
    have := (List.findIdx?_eq_some_iff_getElem.1 h).1
    omega
  · have := Int.natCast_nonneg l.length
    omega
theorem wnt_eq {l : List JA} {i : Nat} (h : i < l.length) (k : Int) : wnt l i k = l[i].needs.any fun s => idx l s == k := by simp [wnt, h]
set_option maxRecDepth 100000 in
set_option maxHeartbeats 8000000 in
theorem rwants_spec (l : List JA) (i : Nat) (k : Int) (hl : l.length ≤ 1000000) (hi : i < l.length) (hm : (l[i]'hi).needs.length ≤ 8796093022208) : Spec Try.prog 33 [] [.sq l.length (ja l), .x (.int .i64 i), .x (.int .i64 k)] (fun r H' => r = .x (.bool (wnt l i k)) ∧ H' = []) := by
  refine Spec_of Try.func33 rfl ?_
  simp only [Try.ntmps33, List.length_cons, List.length_nil, List.replicate_succ, List.replicate_zero, List.cons_append, List.nil_append, Nat.reduceAdd, Nat.reduceSub]
  (repeat' (first | with_reducible (first | refine awp_seq ?_ | refine awp_region ?_ | refine awp_block ?_ | refine awpL_nil ?_ | refine thenA_normal ?_) | ((apply awpL_evl2 rfl); (case h => ((try (intro (hp : (_ : Bool) = true); ((try simp only [Bool.and_eq_true, Bool.not_eq_true', Bool.not_eq_true] at hp); (try simp only [hp, wte]); (try simp only [whn] at hp)))); ((apply Evl_k 0 rfl; (exact Evl_as _ rfl))))); (case hT => ((try simp only [wtn, List.append_eq, List.foldl_cons, List.foldl_nil, List.map_cons, List.map_nil, Nat.reduceAdd, Nat.reduceMul, Nat.reduceSub, ↓reduceIte, Nat.reduceEqDiff]); rfl))) | fail))
  refine awp_loopS (S := Nat) (fun n => frm 30 [(0, .sq l.length (ja l)), (1, .x (.int .i64 i)), (2, .x (.int .i64 k)), (7, .x (.int .i64 n))]) (fun _ => []) (fun n => n ≤ l[i].needs.length ∧ ∀ s ∈ l[i].needs.take n, (idx l s == k) = false) (fun n => l[i].needs.length - n) 0 (Weak.mk' [] _ (List.Perm.refl _) (VwHs.refl _ _) (by (repeat' (first | exact VwL.nil | (refine VwL.cons ?_ ?_) | exact Vw.refl _ | exact Vw.top _ | fail)))) ⟨Nat.zero_le _, by simp⟩ fun n hn => ?_
  simp only [frm, List.replicate_succ, List.replicate_zero, List.foldl_cons, List.foldl_nil, List.set_cons_zero, List.set_cons_succ]
  obtain ⟨hk, hn⟩ := hn
  have hn := Lib.hid hn
  (repeat' (first | with_reducible (first | refine awp_seq ?_ | refine awp_region ?_ | refine awp_block ?_ | refine awp_ret ?_ | refine awp_skip ?_ | refine awp_exit ?_ | refine awpL_nil ?_ | refine thenA_normal ?_ | refine thenA_exit ?_ | refine thenA_ret ?_ | refine inBlockA_eq ?_ | refine inBlockA_normal ?_ | refine inBlockA_ret ?_) | (refine awp_cond _ rfl (fun h => ?_) (fun h => ?_) <;> ((try (simp only [whn] at h)); skip)) | ((apply awpL_evl2 rfl); (case h => ((try (intro (hp : (_ : Bool) = true); ((try simp only [Bool.and_eq_true, Bool.not_eq_true', Bool.not_eq_true] at hp); (try simp only [hp, wte]); (try simp only [whn] at hp)))); (first | (apply Evl_k 0 rfl; (first | exact Evl_mv _ rfl | exact Evl_as _ rfl)) | (apply Evl_k 3 rfl; (exact Evl_len _ _ _ _ _ _ HEl.out rfl rfl)) | (apply Evl_k 5 rfl; (exact Evl_field_at _ _ _ _ _ rfl rfl HFld.out)) | (apply Evl_k 6 rfl; (exact Evl_load_at _ _ _ _ _ rfl rfl HAgg.out (by first | exact Nat.le_of_ble_eq_true rfl | fail) (by first | exact Nat.le_of_ble_eq_true rfl | fail))) | (apply Evl_k 7 rfl; (exact Evl_index_sq _ _ _ _ _ _ _ _ _ _ rfl rfl rfl HEl.out rfl (by first | omega | fail) (by simp; first | omega | fail))) | (apply Evl_k 11 rfl; (exact Evl_call 37 Try.f37 _ _ rfl rfl Try.func37 (by decide) rfl (VwL.refl _ _) (rindex_spec l _ hl))) | (apply Evl_x; (case hs => (intro _ _ h; cases h)); (case hx => rfl); (case hrun => (intro w; simp [wtb, AV.val, go_sem]; (try go_bits); rfl)))))); (case hT => ((try simp (disch := assumption) only [wtn, ja_drop, JA.cells, sa_drop, List.append_eq, List.foldl_cons, List.foldl_nil, List.map_cons, List.map_nil, Nat.reduceAdd, Nat.reduceMul, Nat.reduceSub, ↓reduceIte, Nat.reduceEqDiff]); rfl))) | fail))
  · refine endA_ret _ _ (Res1 rfl (RV.tmp _) (Weak.mk' [] _ (List.Perm.refl _) (VwHs.refl _ _) (VwL.refl _ _))) ?_
    rw [wnt_eq hi]
    refine ⟨?_, rfl⟩
    have : (l[i].needs.any fun s => idx l s == k) = true := by rw [List.any_eq_true]; exact ⟨_, List.getElem_mem (by assumption), by rw [h]; simp⟩
    rw [this]; rfl
  · refine ⟨n + 1, by omega, ⟨by omega, ?_⟩, (Weak.mk' [] _ (List.Perm.refl _) (VwHs.refl _ _) (by (repeat' (first | exact VwL.nil | (refine VwL.cons ?_ ?_) | exact Vw.refl _ | exact Vw.top _ | fail))))⟩
    rw [take_snoc' _ n (by assumption)]; intro j hj; simp only [List.mem_append, List.mem_singleton] at hj
    rcases hj with hj | rfl
    · exact hn.out j hj
    · rw [beq_eq_false_iff_ne]; exact h
  · refine endA_ret _ _ (Res1 rfl (RV.tmp _) (Weak.mk' [] _ (List.Perm.refl _) (VwHs.refl _ _) (VwL.refl _ _))) ?_
    have hn := hn.out
    rw [List.take_of_length_le (by omega)] at hn
    rw [wnt_eq hi]
    refine ⟨?_, rfl⟩
    have : (l[i].needs.any fun s => idx l s == k) = false := by rw [List.any_eq_false]; intro x hx; rw [hn x hx]; simp
    rw [this]; rfl
/-- What job i needs, ascending. -/
def ndsTo (l : List JA) (i n : Nat) : List Int := ((List.range n).filter fun (k : Nat) => wnt l i (k : Int)).map fun (k : Nat) => (k : Int)
def nds (l : List JA) (i : Int) : List Int := if 0 ≤ i ∧ i < (l.length : Int) then ndsTo l i.toNat l.length else []
theorem ndsTo_succ (l : List JA) (i n : Nat) : ndsTo l i (n + 1) = ndsTo l i n ++ if wnt l i n then [(n : Int)] else [] := by
  unfold ndsTo
  rw [List.range_succ, List.filter_append, List.map_append]
  congr 1
  cases hw : wnt l i n <;> simp [List.filter_cons, hw]
theorem ndsTo_le (l : List JA) (i : Nat) (n : Nat) : (ndsTo l i n).length ≤ n := by
  unfold ndsTo
  rw [List.length_map]; have := List.length_filter_le (fun k : Nat => wnt l i (k : Int)) (List.range n); simpa using this
theorem ia_app (l m : List Int) : ia (l ++ m) = ia l ++ ia m := by simp [ia]
set_option maxRecDepth 100000 in
set_option maxHeartbeats 8000000 in
theorem rneeds_in (l : List JA) (i : Nat) (hi : i < l.length) (hl : l.length ≤ 1000000) (hm : (l[i]'hi).needs.length ≤ 8796093022208) : Spec Try.prog 27 [] [.sq l.length (ja l), .x (.int .i64 i)] (fun r H' => r = .sq (ndsTo l i l.length).length (ia (ndsTo l i l.length)) ∧ H' = []) := by
  refine Spec_of Try.func27 rfl ?_
  simp only [Try.ntmps27, List.length_cons, List.length_nil, List.replicate_succ, List.replicate_zero, List.cons_append, List.nil_append, Nat.reduceAdd, Nat.reduceSub]
  (repeat' (first | with_reducible (first | refine awp_seq ?_ | refine awp_region ?_ | refine awp_block ?_ | refine awpL_nil ?_ | refine thenA_normal ?_) | ((apply awpL_evl2 rfl); (case h => ((try (intro (hp : (_ : Bool) = true); ((try simp only [Bool.and_eq_true, Bool.not_eq_true', Bool.not_eq_true] at hp); (try simp only [hp, wte]); (try simp only [whn] at hp)))); ((apply Evl_k 0 rfl; (exact Evl_as _ rfl))))); (case hT => ((try simp only [wtn, List.append_eq, List.foldl_cons, List.foldl_nil, List.map_cons, List.map_nil, Nat.reduceAdd, Nat.reduceMul, Nat.reduceSub, ↓reduceIte, Nat.reduceEqDiff]); rfl))) | fail))
  refine awp_nilrow 3 1 ?_
  refine awp_loopS (S := Nat × Option Addr × Nat) (fun s => frm 32 [(0, .sq l.length (ja l)), (1, .x (.int .i64 i)), (5, .x (.slice s.2.1 (ndsTo l i s.1).length s.2.2)), (6, .x (.int .i64 s.1))]) (fun s => [.row s.2.1 (ndsTo l i s.1).length s.2.2 3 1 (ia (ndsTo l i s.1))]) (fun s => s.1 ≤ l.length) (fun s => l.length - s.1) (0, none, 0) ?a (Nat.zero_le _) fun s hs => ?_
  case a => exact (Weak.mk' [] _ (List.Perm.refl _) (VwHs.refl _ _) (by (repeat' (first | exact VwL.nil | (refine VwL.cons ?_ ?_) | exact Vw.refl _ | exact Vw.top _ | fail))))
  obtain ⟨n, ad, cap⟩ := s
  simp only at hs
  simp only [frm, List.replicate_succ, List.replicate_zero, List.foldl_cons, List.foldl_nil, List.set_cons_zero, List.set_cons_succ]
  have hle := ndsTo_le l i n
  (repeat' (first | with_reducible (first | refine awp_seq ?_ | refine awp_region ?_ | refine awp_block ?_ | refine awp_ret ?_ | refine awp_skip ?_ | refine awp_exit ?_ | refine awpL_nil ?_ | refine thenA_normal ?_ | refine thenA_exit ?_ | refine inBlockA_eq ?_ | refine inBlockA_normal ?_) | (refine awp_cond _ rfl (fun h => ?_) (fun h => ?_) <;> ((try (simp only [whn] at h)); skip)) | ((first | apply awpL_evl2 rfl | apply awpL_g2 _ _ rfl rfl rfl); (case h => ((try (intro (hp : (_ : Bool) = true); ((try simp only [Bool.and_eq_true, Bool.not_eq_true', Bool.not_eq_true] at hp); (try simp only [hp, wte]); (try simp only [whn] at hp)))); (first | (apply Evl_k 0 rfl; (first | exact Evl_mv _ rfl | exact Evl_as _ rfl)) | (apply Evl_k 1 rfl; (exact Evl_and _ _ _ _ _ rfl rfl rfl rfl)) | (apply Evl_k 3 rfl; (exact Evl_len _ _ _ _ _ _ HEl.out rfl rfl)) | (apply Evl_k 11 rfl; (exact Evl_call 33 Try.f33 _ _ rfl rfl Try.func33 (by decide) rfl (VwL.refl _ _) (rwants_spec l i _ hl hi hm))) | (apply Evl_x; (case hs => (intro _ _ h; cases h)); (case hx => rfl); (case hrun => (intro w; simp [wtb, AV.val, go_sem]; (try go_bits); rfl)))))); (case hT => ((try simp only [wtn, List.append_eq, List.foldl_cons, List.foldl_nil, List.map_cons, List.map_nil, Nat.reduceAdd, Nat.reduceMul, Nat.reduceSub, ↓reduceIte, Nat.reduceEqDiff]); rfl))) | (refine awpL_cons rfl ?_; ((first | (refine Stp_k 13 rfl ?_; ((refine Stp_append _ _ _ _ _ _ _ _ _ _ _ _ _ _ rfl rfl FRow.out (Src.row _ rfl FRow.out) HElem.out (by first | rfl | fail) (fits _ _ (by omega) (by decide)) (fun ad cap => ?_)))) | (refine Stp_k 17 rfl ?_; ((refine Stp_buildSlice _ _ _ _ _ _ _ _ rfl HElem.out (by first | rfl | fail) rfl (by decide) rfl (fun b => ?_))))); apply awpL_cong; (case hT => ((try simp only [wtn, List.append_eq, List.foldl_cons, List.foldl_nil, List.map_cons, List.map_nil, Nat.reduceAdd, Nat.reduceMul, Nat.reduceSub, ↓reduceIte, Nat.reduceEqDiff]); rfl)); (case hH => ((try simp only [wtn, List.append_eq, List.foldl_cons, List.foldl_nil, List.map_cons, List.map_nil, Nat.reduceAdd, Nat.reduceMul, Nat.reduceSub, ↓reduceIte, Nat.reduceEqDiff]); rfl)))) | fail))
  · have e : ndsTo l i (n + 1) = ndsTo l i n ++ [(n : Int)] := by rw [ndsTo_succ, h]; rfl
    refine ⟨(n + 1, ad, cap), by simp only; omega, by simp only; omega, ?_⟩
    simp only [e, ia_app, List.length_append, List.length_cons, List.length_nil]
    exact (Weak.mk' [_] [_] (List.Perm.refl _) (VwHs.refl _ _) (by (repeat' (first | exact VwL.nil | (refine VwL.cons ?_ ?_) | exact Vw.refl _ | exact Vw.top _ | fail))))
  · have e : ndsTo l i (n + 1) = ndsTo l i n := by rw [ndsTo_succ, h]; simp
    refine ⟨(n + 1, ad, cap), by simp only; omega, by simp only; omega, ?_⟩
    simp only [e]
    exact (Weak.mk' [] _ (List.Perm.refl _) (VwHs.refl _ _) (by (repeat' (first | exact VwL.nil | (refine VwL.cons ?_ ?_) | exact Vw.refl _ | exact Vw.top _ | fail))))
  · obtain rfl : n = l.length := by omega
    refine endA_ret _ _ (Res1 rfl (RV.tmp _) (Weak.mk' [_] [] (List.Perm.refl _) VwHs.nil (VwL.cons (Vw.row (List.Mem.head _) (VwL.refl _ _)) VwL.nil))) ?_
    exact ⟨rfl, rfl⟩
set_option maxRecDepth 100000 in
set_option maxHeartbeats 8000000 in
theorem rneeds_out (l : List JA) (i : Int) (hi : ¬(0 ≤ i ∧ i < (l.length : Int))) (hl : l.length ≤ 1000000) : Spec Try.prog 27 [] [.sq l.length (ja l), .x (.int .i64 i)] (fun r H' => r = .sq 0 [] ∧ H' = []) := by
  refine Spec_of Try.func27 rfl ?_
  simp only [Try.ntmps27, List.length_cons, List.length_nil, List.replicate_succ, List.replicate_zero, List.cons_append, List.nil_append, Nat.reduceAdd, Nat.reduceSub]
  (repeat' (first | with_reducible (first | refine awp_seq ?_ | refine awp_region ?_ | refine awp_block ?_ | refine awpL_nil ?_ | refine thenA_normal ?_) | ((apply awpL_evl2 rfl); (case h => ((try (intro (hp : (_ : Bool) = true); ((try simp only [Bool.and_eq_true, Bool.not_eq_true', Bool.not_eq_true] at hp); (try simp only [hp, wte]); (try simp only [whn] at hp)))); ((apply Evl_k 0 rfl; (exact Evl_as _ rfl))))); (case hT => ((try simp only [wtn, List.append_eq, List.foldl_cons, List.foldl_nil, List.map_cons, List.map_nil, Nat.reduceAdd, Nat.reduceMul, Nat.reduceSub, ↓reduceIte, Nat.reduceEqDiff]); rfl))) | fail))
  refine awp_loopS (S := Unit) (fun s => frm 32 [(0, .sq l.length (ja l)), (1, .x (.int .i64 i)), (5, .x (.slice none 0 0)), (6, .x (.int .i64 0))]) (fun s => []) (fun s => True) (fun s => 0) () (Weak.mk' [] _ (List.Perm.refl _) (VwHs.refl _ _) (by (repeat' (first | exact VwL.nil | (refine VwL.cons ?_ ?_) | exact Vw.refl _ | exact Vw.top _ | fail)))) trivial fun s hs => ?_
  simp only [frm, List.replicate_succ, List.replicate_zero, List.foldl_cons, List.foldl_nil, List.set_cons_zero, List.set_cons_succ]
  (repeat' (first | with_reducible (first | refine awp_seq ?_ | refine awp_region ?_ | refine awp_ret ?_ | refine awp_exit ?_ | refine awpL_nil ?_ | refine thenA_normal ?_ | refine thenA_exit ?_ | refine inBlockA_eq ?_) | (refine awp_cond _ rfl (fun h => ?_) (fun h => ?_) <;> ((try (simp only [whn] at h)); first | (exfalso; omega; done) | skip)) | ((first | apply awpL_evl2 rfl | apply awpL_g2 _ _ rfl rfl rfl); (case h => ((try (intro (hp : (_ : Bool) = true); ((try simp only [Bool.and_eq_true, Bool.not_eq_true', Bool.not_eq_true] at hp); (try simp only [hp, wte]); (try simp only [whn] at hp)))); (first | (apply Evl_k 0 rfl; (first | exact Evl_mv _ rfl | exact Evl_as _ rfl)) | (apply Evl_k 1 rfl; (exact Evl_and _ _ _ _ _ rfl rfl rfl rfl)) | (apply Evl_k 3 rfl; (exact Evl_len _ _ _ _ _ _ HEl.out rfl rfl)) | (apply Evl_x; (case hs => (intro _ _ h; cases h)); (case hx => rfl); (case hrun => (intro w; simp [wtb, AV.val, go_sem]; (try go_bits); rfl)))))); (case hT => ((try simp only [wtn, List.append_eq, List.foldl_cons, List.foldl_nil, List.map_cons, List.map_nil, Nat.reduceAdd, Nat.reduceMul, Nat.reduceSub, ↓reduceIte, Nat.reduceEqDiff]); rfl))) | fail))
  · refine endA_ret _ _ (Res1 rfl (RV.tmp _) (Weak.mk' [] [] (List.Perm.refl _) VwHs.nil (VwL.cons Vw.nil VwL.nil))) ?_
    exact ⟨rfl, rfl⟩
theorem rneeds_spec (l : List JA) (i : Int) (hl : l.length ≤ 1000000) (hm : ∀ j ∈ l, j.needs.length ≤ 8796093022208) : Spec Try.prog 27 [] [.sq l.length (ja l), .x (.int .i64 i)] (fun r H' => r = .sq (nds l i).length (ia (nds l i)) ∧ H' = []) := by
  by_cases hi : 0 ≤ i ∧ i < (l.length : Int)
  · obtain ⟨k, rfl⟩ : ∃ k : Nat, i = k := ⟨i.toNat, by omega⟩
    have hk : k < l.length := by omega
    have e : nds l k = ndsTo l k l.length := by unfold nds; rw [if_pos hi]; simp
    rw [e]
    exact rneeds_in l k hk hl (hm _ (List.getElem_mem hk))
  · have e : nds l i = [] := by unfold nds; rw [if_neg hi]
    rw [e]
    exact rneeds_out l i hi hl
end Go.Proofs.Ytdcjhndcklofoaa
/- Sorting by insertion: the plain facts. -/
namespace Go.Proofs.Ytdcjhndcklofoaa
set_option linter.unusedSimpArgs false
set_option linter.unusedVariables false
/-- The first n are in order. -/
def Srt (l : List Int) (n : Nat) : Prop := ∀ a b, a < b → b < n → l.getD a 0 ≤ l.getD b 0
/-- The first n + 1 are in order, but that the one at j may be too far behind. -/
def Mid (l : List Int) (i j : Nat) : Prop := ∀ a b, a < b → b ≤ i → b ≠ j → l.getD a 0 ≤ l.getD b 0
/-- Two neighbours change places. -/
def swp (l : List Int) (j : Nat) : List Int := (l.set (j + 1) (l.getD j 0)).set j (l.getD (j + 1) 0)
theorem swp_perm (l : List Int) (j : Nat) (h : j + 1 < l.length) : (swp l j).Perm l := by
  induction l generalizing j with
  | nil => simp at h
  | cons a t ih =>
    cases j with
    | zero =>
      cases t with
      | nil => simp at h
      | cons b t => exact List.Perm.swap a b t
    | succ j => 
      have := ih j (by simpa using h)
      simpa [swp] using this
theorem swp_getD (l : List Int) (j k : Nat) (h : j + 1 < l.length) : (swp l j).getD k 0 = if k = j then l.getD (j + 1) 0 else if k = j + 1 then l.getD j 0 else l.getD k 0 := by
  induction l generalizing j k with
  | nil => simp at h
  | cons a t ih =>
    cases j with
    | zero =>
      cases t with
      | nil => simp at h
      | cons b t => rcases k with _ | _ | k <;> simp [swp]
    | succ j => 
      have := ih j
      cases k with
      | zero => simp [swp]
      | succ k => simpa [swp] using this k (by simpa using h)
theorem Mid_start {l : List Int} {i : Nat} (h : Srt l i) : Mid l i i := fun a b h1 h2 h3 => h a b h1 (by omega)
theorem Mid_zero {l : List Int} {i : Nat} (h : Mid l i 0) : Srt l (i + 1) := fun a b h1 h2 => h a b h1 (by omega) (by omega)
theorem Mid_stop {l : List Int} {i j : Nat} (h : Mid l i (j + 1)) (hj : j + 1 ≤ i) (hc : ¬ l.getD (j + 1) 0 < l.getD j 0) : Srt l (i + 1) := by
  intro a b h1 h2
  by_cases e : b = j + 1
  · subst e
    by_cases e2 : a = j
    · subst e2; omega
    · have := h a j (by omega) (by omega) (by omega); omega
  · exact h a b h1 (by omega) e
theorem Mid_swp {l : List Int} {i j : Nat} (h : Mid l i (j + 1)) (hj : j + 1 ≤ i) (hi : i < l.length) (hc : l.getD (j + 1) 0 < l.getD j 0) : Mid (swp l j) i j := by
  intro a b h1 h2 h3
  rw [swp_getD _ _ _ (by omega), swp_getD _ _ _ (by omega), if_neg h3]
  by_cases eb : b = j + 1
  · rw [if_pos eb]
    by_cases ea : a = j
    · rw [if_pos ea]; omega
    · rw [if_neg ea, if_neg (by omega)]; exact h a j (by omega) (by omega) (by omega)
  · rw [if_neg eb]
    by_cases ea : a = j
    · rw [if_pos ea]; exact h _ b (by omega) h2 eb
    · rw [if_neg ea]
      by_cases ea2 : a = j + 1
      · rw [if_pos ea2]; exact h _ b (by omega) h2 eb
      · rw [if_neg ea2]; exact h _ b h1 h2 eb
theorem Srt_all {l : List Int} (h : Srt l l.length) : l.Pairwise (· ≤ ·) := by
  rw [List.pairwise_iff_getElem]
  intro i j hi hj hij
  have := h i j hij hj
  simpa [List.getD_eq_getElem?_getD, hi, hj] using this
theorem getD_at4 (l : List Int) (j : Nat) (h : j < l.length) : l.getD j 0 = l[j] := by simp [List.getD_eq_getElem?_getD, h]
end Go.Proofs.Ytdcjhndcklofoaa
