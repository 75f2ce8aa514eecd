import Derived.Test.YtkhhlmonhapmaaaGreatDoorW15
import Derived.Test.YtkhhlmonhapmaaaGreatDoorW10
import Derived.Test.YtkhhlmonhapmaaaGreatDoorW13
/- The reference's parser: signals, rungs. -/
namespace Go.Proofs.YtkhhlmonhapmaaaGreatDoor
open Go.RowKit
set_option linter.unusedSimpArgs false
set_option linter.unusedVariables false
/-- The number of a signal's name; 0 if it has none. -/
def sigL (s : List UInt8) : Int := if s = [72, 85, 80] then 1 else if s = [73, 78, 84] then 2 else if s = [81, 85, 73, 84] then 3 else if s = [85, 83, 82, 49] then 10 else if s = [85, 83, 82, 50] then 12 else if s = [84, 69, 82, 77] then 15 else 0
set_option maxRecDepth 100000 in
set_option maxHeartbeats 8000000 in
theorem signal_s (s : List UInt8) : Spec Tryz.prog 23 [] [.x (.string (bs s))] (fun r H' => r = .x (.int .i64 (sigL s)) ∧ H' = []) := by
  refine Spec_of Tryz.func23 rfl ?_
  simp only [Tryz.ntmps23, List.length_cons, List.length_nil, List.replicate_succ, List.replicate_zero, List.cons_append, List.nil_append, Nat.reduceAdd, Nat.reduceSub]
  (repeat' (first | with_reducible (first | refine awp_seq ?_ | refine awp_region ?_ | refine awp_block ?_ | refine awp_ret ?_ | refine awp_skip ?_ | refine awp_exit ?_ | refine awpL_nil ?_ | refine dr_nil ?_ | refine thenA_normal ?_ | refine thenA_exit ?_ | refine thenA_ret ?_ | refine inBlockA_eq ?_ | refine inBlockA_normal ?_ | refine inBlockA_ret ?_ | refine jumpA_normal ?_ | refine jumpA_exit ?_ | refine jumpA_ret ?_ | refine jumpA_goto ?_ | refine awp_goto ?_ | refine thenA_goto ?_ | refine inBlockA_goto ?_) | (with_reducible refine awp_drawnQ mixed ?_ ?_; (decide +kernel)) | (with_reducible refine inBlockA_ne ?_ ?_; (decide)) | (refine awp_cond _ rfl (fun h => ?_) (fun h => ?_) <;> first | (exact absurd h (by decide)) | ((try (simp only [whn] at h)); first | (exfalso; omega; done) | skip)) | ((first | apply awpL_gf rfl rfl rfl | apply dr_gf rfl rfl rfl); (case hT => ((try simp only [wtn, List.append_eq, List.foldl_cons, List.foldl_nil, List.map_cons, List.map_nil, Nat.reduceAdd, Nat.reduceMul, Nat.reduceSub, ↓reduceIte, Nat.reduceEqDiff]); rfl))) | ((first | apply awpL_evl2 rfl | apply dr_evl2 rfl | apply awpL_g2 _ _ rfl rfl rfl | apply dr_g2 _ _ rfl rfl rfl); (case h => ((try (intro (hp : (_ : Bool) = true); ((try simp only [Bool.and_eq_true, Bool.not_eq_true', Bool.not_eq_true] at hp); (try simp only [hp, wte]); (try simp only [whn] at hp)))); (first | (apply Evl_k 0 rfl; (first | exact Evl_mv _ rfl | exact Evl_as _ rfl)) | (apply Evl_k 1 rfl; (first | exact Evl_pickf _ _ _ rfl rfl | exact Evl_pickt _ _ _ rfl rfl | exact Evl_and _ _ _ _ _ rfl rfl rfl rfl | exact Evl_or _ _ _ _ _ rfl rfl rfl rfl | exact Evl_and' _ _ _ _ _ rfl rfl rfl rfl | exact Evl_or' _ _ _ _ _ rfl rfl rfl rfl)) | (apply Evl_k 2 rfl; (first | exact Evl_extract _ _ _ _ rfl rfl rfl)) | (apply Evl_k 3 rfl; (first | exact Evl_len _ _ _ _ _ _ HEl.out rfl rfl)) | (apply Evl_k 4 rfl; (first | exact Evl_nil _ rfl (by first | exact .inl ⟨_, rfl⟩ | exact .inr ⟨_, rfl⟩))) | (apply Evl_k 5 rfl; (first | exact Evl_field_x _ _ _ _ _ _ rfl rfl HFld.out | exact Evl_field_at _ _ _ _ _ rfl rfl HFld.out)) | (apply Evl_k 6 rfl; (first | exact Evl_load_at _ _ _ _ _ rfl rfl HAgg.out (by first | exact Nat.le_of_ble_eq_true rfl | (simp [wlq]; first | done | omega)) (by first | exact Nat.le_of_ble_eq_true rfl | (simp [wlq]; first | done | omega)) | exact Evl_load _ _ _ _ _ _ _ _ rfl rfl FBox.out HAgg.out (by first | exact Nat.le_of_ble_eq_true rfl | (simp [wlq]; first | done | omega)) (by first | exact Nat.le_of_ble_eq_true rfl | (simp [wlq]; first | done | omega)) | exact Evl_load_row _ _ _ _ _ _ _ _ _ _ _ _ rfl rfl FRow.out HAgg.out (by first | exact Nat.le_of_ble_eq_true rfl | (simp [wlq]; first | done | omega)) (by first | exact Nat.le_of_ble_eq_true rfl | (simp [wlq]; first | done | omega)))) | (apply Evl_k 7 rfl; (first | exact Evl_index_sq _ _ _ _ _ _ _ _ _ _ rfl rfl rfl HEl.out rfl (by first | omega | assumption) (by simp; first | done | omega) | exact Evl_index_own _ _ _ _ _ _ _ _ _ _ _ _ rfl rfl rfl HEl.out rfl (by first | omega | assumption))) | (apply Evl_k 8 rfl; (first | exact Evl_index_str _ _ _ _ _ _ _ rfl rfl rfl (by kernel_rfl) rfl (by omega))) | (apply Evl_k 9 rfl; (first | exact Evl_slice_str _ _ _ _ _ _ _ rfl rfl (by kernel_rfl) (by first | exact .inl ⟨rfl, rfl⟩ | exact .inr ⟨_, _, rfl, rfl⟩) (by first | exact .inl ⟨rfl, rfl⟩ | exact .inr ⟨_, _, rfl, rfl⟩) (by omega) (by omega) | exact Evl_slice_sq _ _ _ _ _ _ _ _ _ _ rfl rfl HEl.out (by first | exact .inl ⟨rfl, rfl⟩ | exact .inr ⟨_, _, rfl, rfl⟩) (by first | exact .inl ⟨rfl, rfl⟩ | exact .inr ⟨_, _, rfl, rfl⟩) (by omega) (by omega) | exact Evl_slice_own _ _ _ _ _ _ _ _ _ _ _ _ rfl rfl HEl.out (by first | exact .inl ⟨rfl, rfl⟩ | exact .inr ⟨_, _, rfl, rfl⟩) (by first | exact .inl ⟨rfl, rfl⟩ | exact .inr ⟨_, _, rfl, rfl⟩) (by omega) (by omega))) | (apply Evl_k 10 rfl; (first | exact Evl_build _ _ _ _ _ rfl HPl.out (by first | rfl | (simp; done)) rfl)) | (apply Evl_x; (case hs => (intro _ _ h; cases h)); (case hx => rfl); (case hrun => (intro w; simp [wtb, AV.val, go_sem]; (try go_bits); rfl)))))); (case hT => ((try simp only [wtn, List.append_eq, List.foldl_cons, List.foldl_nil, List.map_cons, List.map_nil, Nat.reduceAdd, Nat.reduceMul, Nat.reduceSub, ↓reduceIte, Nat.reduceEqDiff]); rfl))) | (refine awpL_cons rfl ?_; ((first | (refine Stp_k 13 rfl ?_; (first | (refine Stp_append _ _ _ _ _ _ _ _ _ _ _ _ _ _ rfl rfl FRow.out (Src.row _ rfl FRow.out) HElem.out (by first | rfl | (simp; first | done | omega)) (fits _ _ (by omega) (by decide)) (fun ad cap => ?_)) | (refine Stp_append _ _ _ _ _ _ _ _ _ _ _ _ _ _ rfl rfl FRow.out (Src.sq rfl) HElem.out (by first | rfl | (simp; first | done | omega)) (fits _ _ (by omega) (by decide)) (fun ad cap => ?_)))) | (refine Stp_k 14 rfl ?_; (first | (refine Stp_alloc _ _ rfl HZero.out rfl (fun b => ?_)))) | (refine Stp_k 15 rfl ?_; (first | (refine Stp_box _ _ rfl (by first | rfl | ((try simp only [wtn, List.append_eq, List.foldl_cons, List.foldl_nil, List.map_cons, List.map_nil, Nat.reduceAdd, Nat.reduceMul, Nat.reduceSub, ↓reduceIte, Nat.reduceEqDiff]); simp [won, Value.oneCell']; done)) (fun b => ?_)))) | (refine Stp_k 16 rfl ?_; (first | (refine Stp_store _ _ _ _ _ _ _ rfl rfl FBox.out HSize.out (by first | rfl | ((try simp only [wtn, List.append_eq, List.foldl_cons, List.foldl_nil, List.map_cons, List.map_nil, Nat.reduceAdd, Nat.reduceMul, Nat.reduceSub, ↓reduceIte, Nat.reduceEqDiff]); simp [won, Value.oneCell']; done)) (by first | exact Nat.le_of_ble_eq_true rfl | (simp [wlq]; first | done | omega)) ?_) | (refine Stp_store_row _ _ _ _ _ _ _ _ _ _ _ rfl rfl FRow.out HSize.out (by first | rfl | ((try simp only [wtn, List.append_eq, List.foldl_cons, List.foldl_nil, List.map_cons, List.map_nil, Nat.reduceAdd, Nat.reduceMul, Nat.reduceSub, ↓reduceIte, Nat.reduceEqDiff]); simp [won, Value.oneCell']; done)) (by first | exact Nat.le_of_ble_eq_true rfl | (simp [wlq]; first | done | omega)) ?_))) | (refine Stp_k 17 rfl ?_; (first | (refine Stp_buildSlice _ _ _ _ _ _ _ _ rfl HElem.out (by first | rfl | ((try simp only [wtn, List.append_eq, List.foldl_cons, List.foldl_nil, List.map_cons, List.map_nil, Nat.reduceAdd, Nat.reduceMul, Nat.reduceSub, ↓reduceIte, Nat.reduceEqDiff]); simp [won, Value.oneCell']; done)) rfl (by decide) rfl (fun b => ?_))))); apply awpL_cong; (case hT => ((try simp only [wtn, List.append_eq, List.foldl_cons, List.foldl_nil, List.map_cons, List.map_nil, Nat.reduceAdd, Nat.reduceMul, Nat.reduceSub, ↓reduceIte, Nat.reduceEqDiff]); rfl)); (case hH => ((try simp only [wtn, List.append_eq, List.foldl_cons, List.foldl_nil, List.map_cons, List.map_nil, Nat.reduceAdd, Nat.reduceMul, Nat.reduceSub, ↓reduceIte, Nat.reduceEqDiff]); rfl))))))
  all_goals
    refine endA_ret _ _ (Res1 rfl (RV.tmp _) (Weak.mk' [] _ (List.Perm.refl _) (VwHs.refl _ _) (VwL.refl _ _))) ?_
    refine ⟨?_, rfl⟩
    first | (simp [sigL, ev, *]; done) | (subst_vars; simp [sigL, ev])
end Go.Proofs.YtkhhlmonhapmaaaGreatDoor
/- The reference's parser, exact: lists of names and of rungs. -/
namespace Go.Proofs.YtkhhlmonhapmaaaGreatDoor
open Go.RowKit
set_option linter.unusedSimpArgs false
set_option linter.unusedVariables false
theorem Got.err {α : Type} {ts : List Tok} {s : PS} (hk : s.k < ts.length) (he : s.e = 0) (e2 : Int) (h2 : e2 ≠ 0) (t : Tok) (v : α) : Got ts s (.error (flt e2 t)) ⟨s.k, e2, t.line, t.col⟩ v :=
  ⟨hk, Nat.le_refl _, fun h => absurd he h, fun _ => ⟨h2, rfl, rfl, rfl⟩⟩
theorem Got.last {α β : Type} {ts : List Tok} {s s2 : PS} {x : Except Flt (α × Nat)} {y : α → Nat → Except Flt (β × Nat)} {a : α} {b : β} (h1 : Got ts s x s2 a) (h2 : Got ts s2 (y a s2.k) s2 b) : Got ts s (x >>= fun p => y p.1 p.2) s2 b := Got.bind h1 h2
theorem Got.next {α : Type} {x : Except Flt α} {k k2 : Nat} {v : α} (h : (x.map fun a => (a, k)) = .ok (v, k2)) : k2 = k := by
  cases x with
  | ok a => cases h; rfl
  | error f => cases h
theorem comma_lt {ts : List Tok} (hv : VT ts) {s : List UInt8} (k : Nat) (hk : k < ts.length) (h : gIs ts k s = true) : k + 1 < ts.length := by
  simp only [gIs, Bool.and_eq_true, beq_iff_eq, tkA_get hk] at h
  exact hv k hk (by omega)
end Go.Proofs.YtkhhlmonhapmaaaGreatDoor
/- The reference's parser: the burst limit. -/
namespace Go.Proofs.YtkhhlmonhapmaaaGreatDoor
open Go.RowKit
set_option linter.unusedSimpArgs false
set_option linter.unusedVariables false
end Go.Proofs.YtkhhlmonhapmaaaGreatDoor
/- The reference's parser, exact: rungs, the burst limit. -/
namespace Go.Proofs.YtkhhlmonhapmaaaGreatDoor
open Go.RowKit
set_option linter.unusedSimpArgs false
set_option linter.unusedVariables false
def gBurst (ts : List Tok) (k : Nat) (j : JF) : Except Flt (JF × Nat) := do
  let n ← gNum ts k
  if n < 1 ∨ 16 < n then .error (flt 2 (tkA ts k)) else
  let m ← gNum ts (k + 1)
  .ok ({ j with burst := n, window := m }, k + 2)
end Go.Proofs.YtkhhlmonhapmaaaGreatDoor
/- The reference's parser: the words that are known. -/
namespace Go.Proofs.YtkhhlmonhapmaaaGreatDoor
open Go.RowKit
set_option linter.unusedSimpArgs false
set_option linter.unusedVariables false
def words : List (List UInt8) := [[114, 117, 110], [101, 110, 118], [110, 101, 101, 100, 115], [114, 101, 97, 100, 121], [114, 101, 115, 116, 97, 114, 116], [98, 97, 99, 107, 111, 102, 102], [98, 117, 114, 115, 116], [115, 116, 111, 112]]
end Go.Proofs.YtkhhlmonhapmaaaGreatDoor
/- The reference's parser, exact: variables. -/
namespace Go.Proofs.YtkhhlmonhapmaaaGreatDoor
open Go.RowKit
set_option linter.unusedSimpArgs false
set_option linter.unusedVariables false
end Go.Proofs.YtkhhlmonhapmaaaGreatDoor
/- Where the fields of struct values lie. Printed by a small program; each is proved by the kernel. -/
namespace Go.Proofs.YtkhhlmonhapmaaaGreatDoor
set_option maxRecDepth 100000
instance : HFv Tryz.prog 7 0 0 false 1 := ⟨by kernel_rfl⟩
instance : HFv Tryz.prog 7 1 1 false 1 := ⟨by kernel_rfl⟩
instance : HFv Tryz.prog 7 2 2 false 1 := ⟨by kernel_rfl⟩
instance : HFv Tryz.prog 7 3 3 false 1 := ⟨by kernel_rfl⟩
instance : HFv Tryz.prog 8 0 0 false 1 := ⟨by kernel_rfl⟩
instance : HFv Tryz.prog 8 1 1 false 1 := ⟨by kernel_rfl⟩
instance : HFv Tryz.prog 8 2 2 false 1 := ⟨by kernel_rfl⟩
instance : HFv Tryz.prog 8 3 3 false 1 := ⟨by kernel_rfl⟩
instance : HFv Tryz.prog 13 0 0 false 1 := ⟨by kernel_rfl⟩
instance : HFv Tryz.prog 13 1 1 false 1 := ⟨by kernel_rfl⟩
instance : HFv Tryz.prog 14 0 0 false 1 := ⟨by kernel_rfl⟩
instance : HFv Tryz.prog 14 1 1 false 1 := ⟨by kernel_rfl⟩
instance : HFv Tryz.prog 18 0 0 false 1 := ⟨by kernel_rfl⟩
instance : HFv Tryz.prog 19 0 0 false 1 := ⟨by kernel_rfl⟩
instance : HFv Tryz.prog 31 0 0 false 1 := ⟨by kernel_rfl⟩
instance : HFv Tryz.prog 31 1 1 false 1 := ⟨by kernel_rfl⟩
instance : HFv Tryz.prog 31 2 2 false 1 := ⟨by kernel_rfl⟩
instance : HFv Tryz.prog 32 0 0 false 1 := ⟨by kernel_rfl⟩
instance : HFv Tryz.prog 32 1 1 false 1 := ⟨by kernel_rfl⟩
instance : HFv Tryz.prog 32 2 2 false 1 := ⟨by kernel_rfl⟩
instance : HFv Tryz.prog 50 0 0 false 1 := ⟨by kernel_rfl⟩
instance : HFv Tryz.prog 50 1 1 false 1 := ⟨by kernel_rfl⟩
instance : HFv Tryz.prog 50 2 2 false 1 := ⟨by kernel_rfl⟩
instance : HFv Tryz.prog 50 3 3 false 1 := ⟨by kernel_rfl⟩
instance : HFv Tryz.prog 50 4 4 false 1 := ⟨by kernel_rfl⟩
instance : HFv Tryz.prog 50 5 5 false 1 := ⟨by kernel_rfl⟩
instance : HFv Tryz.prog 50 6 6 false 1 := ⟨by kernel_rfl⟩
instance : HFv Tryz.prog 50 7 7 false 1 := ⟨by kernel_rfl⟩
instance : HFv Tryz.prog 50 8 8 false 1 := ⟨by kernel_rfl⟩
instance : HFv Tryz.prog 50 9 9 false 1 := ⟨by kernel_rfl⟩
instance : HFv Tryz.prog 50 10 10 false 1 := ⟨by kernel_rfl⟩
instance : HFv Tryz.prog 50 11 11 false 1 := ⟨by kernel_rfl⟩
instance : HFv Tryz.prog 50 12 12 false 1 := ⟨by kernel_rfl⟩
instance : HFv Tryz.prog 50 13 13 false 1 := ⟨by kernel_rfl⟩
instance : HFv Tryz.prog 50 14 14 false 1 := ⟨by kernel_rfl⟩
instance : HFv Tryz.prog 51 0 0 false 1 := ⟨by kernel_rfl⟩
instance : HFv Tryz.prog 51 1 1 false 1 := ⟨by kernel_rfl⟩
instance : HFv Tryz.prog 51 2 2 false 1 := ⟨by kernel_rfl⟩
instance : HFv Tryz.prog 51 3 3 false 1 := ⟨by kernel_rfl⟩
instance : HFv Tryz.prog 51 4 4 false 1 := ⟨by kernel_rfl⟩
instance : HFv Tryz.prog 51 5 5 false 1 := ⟨by kernel_rfl⟩
instance : HFv Tryz.prog 51 6 6 false 1 := ⟨by kernel_rfl⟩
instance : HFv Tryz.prog 51 7 7 false 1 := ⟨by kernel_rfl⟩
instance : HFv Tryz.prog 51 8 8 false 1 := ⟨by kernel_rfl⟩
instance : HFv Tryz.prog 51 9 9 false 1 := ⟨by kernel_rfl⟩
instance : HFv Tryz.prog 51 10 10 false 1 := ⟨by kernel_rfl⟩
instance : HFv Tryz.prog 51 11 11 false 1 := ⟨by kernel_rfl⟩
instance : HFv Tryz.prog 51 12 12 false 1 := ⟨by kernel_rfl⟩
instance : HFv Tryz.prog 51 13 13 false 1 := ⟨by kernel_rfl⟩
instance : HFv Tryz.prog 51 14 14 false 1 := ⟨by kernel_rfl⟩
instance : HFv Tryz.prog 52 0 0 false 1 := ⟨by kernel_rfl⟩
instance : HFv Tryz.prog 52 1 1 false 1 := ⟨by kernel_rfl⟩
instance : HFv Tryz.prog 53 0 0 false 1 := ⟨by kernel_rfl⟩
instance : HFv Tryz.prog 53 1 1 false 1 := ⟨by kernel_rfl⟩
instance : HFv Tryz.prog 54 0 0 false 1 := ⟨by kernel_rfl⟩
instance : HFv Tryz.prog 54 1 1 false 1 := ⟨by kernel_rfl⟩
instance : HFv Tryz.prog 55 0 0 false 1 := ⟨by kernel_rfl⟩
instance : HFv Tryz.prog 55 1 1 false 1 := ⟨by kernel_rfl⟩
instance : HFv Tryz.prog 57 0 0 false 1 := ⟨by kernel_rfl⟩
instance : HFv Tryz.prog 57 1 1 false 1 := ⟨by kernel_rfl⟩
instance : HFv Tryz.prog 58 0 0 false 1 := ⟨by kernel_rfl⟩
instance : HFv Tryz.prog 58 1 1 false 1 := ⟨by kernel_rfl⟩
instance : HFv Tryz.prog 67 0 0 false 1 := ⟨by kernel_rfl⟩
instance : HFv Tryz.prog 67 1 1 false 1 := ⟨by kernel_rfl⟩
instance : HFv Tryz.prog 68 0 0 false 1 := ⟨by kernel_rfl⟩
instance : HFv Tryz.prog 68 1 1 false 1 := ⟨by kernel_rfl⟩
instance : HFv Tryz.prog 69 0 0 false 1 := ⟨by kernel_rfl⟩
instance : HFv Tryz.prog 69 1 1 false 1 := ⟨by kernel_rfl⟩
instance : HFv Tryz.prog 69 2 2 false 1 := ⟨by kernel_rfl⟩
instance : HFv Tryz.prog 69 3 3 false 1 := ⟨by kernel_rfl⟩
instance : HFv Tryz.prog 70 0 0 false 1 := ⟨by kernel_rfl⟩
instance : HFv Tryz.prog 70 1 1 false 1 := ⟨by kernel_rfl⟩
instance : HFv Tryz.prog 70 2 2 false 1 := ⟨by kernel_rfl⟩
instance : HFv Tryz.prog 70 3 3 false 1 := ⟨by kernel_rfl⟩
instance : HFv Tryz.prog 74 0 0 false 1 := ⟨by kernel_rfl⟩
instance : HFv Tryz.prog 74 1 1 false 1 := ⟨by kernel_rfl⟩
instance : HFv Tryz.prog 74 2 2 true 3 := ⟨by kernel_rfl⟩
instance : HFv Tryz.prog 74 3 5 false 1 := ⟨by kernel_rfl⟩
instance : HFv Tryz.prog 75 0 0 false 1 := ⟨by kernel_rfl⟩
instance : HFv Tryz.prog 75 1 1 false 1 := ⟨by kernel_rfl⟩
instance : HFv Tryz.prog 75 2 2 true 3 := ⟨by kernel_rfl⟩
instance : HFv Tryz.prog 75 3 5 false 1 := ⟨by kernel_rfl⟩
instance : HFv Tryz.prog 90 0 0 false 1 := ⟨by kernel_rfl⟩
instance : HFv Tryz.prog 90 1 1 false 1 := ⟨by kernel_rfl⟩
instance : HFv Tryz.prog 90 2 2 false 1 := ⟨by kernel_rfl⟩
instance : HFv Tryz.prog 91 0 0 false 1 := ⟨by kernel_rfl⟩
instance : HFv Tryz.prog 91 1 1 false 1 := ⟨by kernel_rfl⟩
instance : HFv Tryz.prog 91 2 2 false 1 := ⟨by kernel_rfl⟩
instance : HFv Tryz.prog 107 0 0 false 1 := ⟨by kernel_rfl⟩
instance : HFv Tryz.prog 107 1 1 false 1 := ⟨by kernel_rfl⟩
instance : HFv Tryz.prog 108 0 0 false 1 := ⟨by kernel_rfl⟩
instance : HFv Tryz.prog 108 1 1 false 1 := ⟨by kernel_rfl⟩
instance : HFv Tryz.prog 117 0 0 false 1 := ⟨by kernel_rfl⟩
instance : HFv Tryz.prog 117 1 1 false 1 := ⟨by kernel_rfl⟩
instance : HFv Tryz.prog 117 2 2 false 1 := ⟨by kernel_rfl⟩
instance : HFv Tryz.prog 117 3 3 false 1 := ⟨by kernel_rfl⟩
instance : HFv Tryz.prog 118 0 0 false 1 := ⟨by kernel_rfl⟩
instance : HFv Tryz.prog 118 1 1 false 1 := ⟨by kernel_rfl⟩
instance : HFv Tryz.prog 118 2 2 false 1 := ⟨by kernel_rfl⟩
instance : HFv Tryz.prog 118 3 3 false 1 := ⟨by kernel_rfl⟩
instance : HFv Tryz.prog 124 0 0 false 1 := ⟨by kernel_rfl⟩
instance : HFv Tryz.prog 124 1 1 false 1 := ⟨by kernel_rfl⟩
instance : HFv Tryz.prog 124 2 2 false 1 := ⟨by kernel_rfl⟩
instance : HFv Tryz.prog 125 0 0 false 1 := ⟨by kernel_rfl⟩
instance : HFv Tryz.prog 125 1 1 false 1 := ⟨by kernel_rfl⟩
instance : HFv Tryz.prog 125 2 2 false 1 := ⟨by kernel_rfl⟩
instance : HFv Tryz.prog 157 0 0 false 1 := ⟨by kernel_rfl⟩
instance : HFv Tryz.prog 158 0 0 false 1 := ⟨by kernel_rfl⟩
instance : HFv Tryz.prog 203 0 0 false 1 := ⟨by kernel_rfl⟩
instance : HFv Tryz.prog 203 1 1 false 1 := ⟨by kernel_rfl⟩
instance : HFv Tryz.prog 203 2 2 false 1 := ⟨by kernel_rfl⟩
instance : HFv Tryz.prog 204 0 0 false 1 := ⟨by kernel_rfl⟩
instance : HFv Tryz.prog 204 1 1 false 1 := ⟨by kernel_rfl⟩
instance : HFv Tryz.prog 204 2 2 false 1 := ⟨by kernel_rfl⟩
instance : HFv Tryz.prog 207 0 0 false 1 := ⟨by kernel_rfl⟩
instance : HFv Tryz.prog 207 1 1 false 1 := ⟨by kernel_rfl⟩
instance : HFv Tryz.prog 208 0 0 false 1 := ⟨by kernel_rfl⟩
instance : HFv Tryz.prog 208 1 1 false 1 := ⟨by kernel_rfl⟩
instance : HFv Tryz.prog 217 0 0 false 1 := ⟨by kernel_rfl⟩
instance : HFv Tryz.prog 218 0 0 false 1 := ⟨by kernel_rfl⟩
instance : HFv Tryz.prog 225 0 0 false 1 := ⟨by kernel_rfl⟩
instance : HFv Tryz.prog 225 1 1 false 1 := ⟨by kernel_rfl⟩
instance : HFv Tryz.prog 225 2 2 false 1 := ⟨by kernel_rfl⟩
instance : HFv Tryz.prog 225 3 3 false 1 := ⟨by kernel_rfl⟩
instance : HFv Tryz.prog 226 0 0 false 1 := ⟨by kernel_rfl⟩
instance : HFv Tryz.prog 226 1 1 false 1 := ⟨by kernel_rfl⟩
instance : HFv Tryz.prog 226 2 2 false 1 := ⟨by kernel_rfl⟩
instance : HFv Tryz.prog 226 3 3 false 1 := ⟨by kernel_rfl⟩
instance : HFv Tryz.prog 228 0 0 true 0 := ⟨by kernel_rfl⟩
instance : HFv Tryz.prog 229 0 0 true 0 := ⟨by kernel_rfl⟩
instance : HFv Tryz.prog 235 0 0 false 1 := ⟨by kernel_rfl⟩
instance : HFv Tryz.prog 235 1 1 false 1 := ⟨by kernel_rfl⟩
instance : HFv Tryz.prog 235 2 2 false 1 := ⟨by kernel_rfl⟩
instance : HFv Tryz.prog 235 3 3 false 1 := ⟨by kernel_rfl⟩
instance : HFv Tryz.prog 235 4 4 false 1 := ⟨by kernel_rfl⟩
instance : HFv Tryz.prog 235 5 5 false 1 := ⟨by kernel_rfl⟩
instance : HFv Tryz.prog 235 6 6 false 1 := ⟨by kernel_rfl⟩
instance : HFv Tryz.prog 235 7 7 false 1 := ⟨by kernel_rfl⟩
instance : HFv Tryz.prog 235 8 8 false 1 := ⟨by kernel_rfl⟩
instance : HFv Tryz.prog 235 9 9 false 1 := ⟨by kernel_rfl⟩
instance : HFv Tryz.prog 235 10 10 false 1 := ⟨by kernel_rfl⟩
instance : HFv Tryz.prog 236 0 0 false 1 := ⟨by kernel_rfl⟩
instance : HFv Tryz.prog 236 1 1 false 1 := ⟨by kernel_rfl⟩
instance : HFv Tryz.prog 236 2 2 false 1 := ⟨by kernel_rfl⟩
instance : HFv Tryz.prog 236 3 3 false 1 := ⟨by kernel_rfl⟩
instance : HFv Tryz.prog 236 4 4 false 1 := ⟨by kernel_rfl⟩
instance : HFv Tryz.prog 236 5 5 false 1 := ⟨by kernel_rfl⟩
instance : HFv Tryz.prog 236 6 6 false 1 := ⟨by kernel_rfl⟩
instance : HFv Tryz.prog 236 7 7 false 1 := ⟨by kernel_rfl⟩
instance : HFv Tryz.prog 236 8 8 false 1 := ⟨by kernel_rfl⟩
instance : HFv Tryz.prog 236 9 9 false 1 := ⟨by kernel_rfl⟩
instance : HFv Tryz.prog 236 10 10 false 1 := ⟨by kernel_rfl⟩
instance : HFv Tryz.prog 239 0 0 false 1 := ⟨by kernel_rfl⟩
instance : HFv Tryz.prog 239 1 1 false 1 := ⟨by kernel_rfl⟩
instance : HFv Tryz.prog 240 0 0 false 1 := ⟨by kernel_rfl⟩
instance : HFv Tryz.prog 240 1 1 false 1 := ⟨by kernel_rfl⟩
instance : HFv Tryz.prog 244 0 0 false 1 := ⟨by kernel_rfl⟩
instance : HFv Tryz.prog 244 1 1 false 1 := ⟨by kernel_rfl⟩
instance : HFv Tryz.prog 244 2 2 false 1 := ⟨by kernel_rfl⟩
instance : HFv Tryz.prog 244 3 3 false 1 := ⟨by kernel_rfl⟩
instance : HFv Tryz.prog 244 4 4 false 1 := ⟨by kernel_rfl⟩
instance : HFv Tryz.prog 245 0 0 false 1 := ⟨by kernel_rfl⟩
instance : HFv Tryz.prog 245 1 1 false 1 := ⟨by kernel_rfl⟩
instance : HFv Tryz.prog 245 2 2 false 1 := ⟨by kernel_rfl⟩
instance : HFv Tryz.prog 245 3 3 false 1 := ⟨by kernel_rfl⟩
instance : HFv Tryz.prog 245 4 4 false 1 := ⟨by kernel_rfl⟩
instance : HFv Tryz.prog 248 0 0 false 1 := ⟨by kernel_rfl⟩
instance : HFv Tryz.prog 248 1 1 false 1 := ⟨by kernel_rfl⟩
instance : HFv Tryz.prog 248 2 2 false 1 := ⟨by kernel_rfl⟩
instance : HFv Tryz.prog 248 3 3 false 1 := ⟨by kernel_rfl⟩
instance : HFv Tryz.prog 249 0 0 false 1 := ⟨by kernel_rfl⟩
instance : HFv Tryz.prog 249 1 1 false 1 := ⟨by kernel_rfl⟩
instance : HFv Tryz.prog 249 2 2 false 1 := ⟨by kernel_rfl⟩
instance : HFv Tryz.prog 249 3 3 false 1 := ⟨by kernel_rfl⟩
end Go.Proofs.YtkhhlmonhapmaaaGreatDoor
/- The reference's parser, exact: an item. -/
namespace Go.Proofs.YtkhhlmonhapmaaaGreatDoor
open Go.RowKit
set_option linter.unusedSimpArgs false
set_option linter.unusedVariables false
/-- A job's lists are no longer than what was read. -/
structure JB (j : JF) (k : Nat) : Prop where
  env : j.env.length ≤ k
  needs : j.needs.length ≤ k
  ladder : j.ladder.length ≤ k
theorem JB.mono {j : JF} {k k' : Nat} (h : JB j k) (hk : k ≤ k') : JB j k' := ⟨Nat.le_trans h.1 hk, Nat.le_trans h.2 hk, Nat.le_trans h.3 hk⟩
section
variable (ts : List Tok) (k : Nat) (j : JF)
theorem gItem_run : gItem ts k wRun j = ((gTake ts k 3 512).map fun t => (t, k + 1)).map fun p => ({ j with run := p.1.text }, p.2) := by
  unfold gItem
  rw [if_pos rfl]
  cases gTake ts k 3 512 <;> rfl
theorem gItem_env : gItem ts k wEnv j = (gVar ts k j.env).map fun v => ({ j with env := j.env ++ [v] }, k + 3) := by
  unfold gItem
  rw [if_neg (by decide), if_pos rfl]
theorem gItem_needs : gItem ts k wNeeds j = (gList (gNeed ts) 1 ts k []).map fun p => ({ j with needs := p.1 }, p.2) := by
  unfold gItem
  rw [if_neg (by decide), if_neg (by decide), if_pos rfl]
theorem gItem_ready : gItem ts k wReady j = ((gTake ts k 4 128).map fun t => (t, k + 1)).map fun p => ({ j with hasr := true, ready := p.1.text }, p.2) := by
  unfold gItem
  rw [if_neg (by decide), if_neg (by decide), if_neg (by decide), if_pos rfl]
  cases gTake ts k 4 128 <;> rfl
theorem gItem_restart : gItem ts k wRestart j = ((gPol ts k).map fun n => (n, k + 1)).map fun p => ({ j with restart := p.1 }, p.2) := by
  unfold gItem
  rw [if_neg (by decide), if_neg (by decide), if_neg (by decide), if_neg (by decide), if_pos rfl]
  cases gPol ts k <;> rfl
theorem gItem_backoff : gItem ts k wBackoff j = ((gNum ts k).map fun n => (n, k + 1)) >>= fun p => ((gNum ts p.2).map fun n => (n, p.2 + 1)) >>= fun q => ((gNum ts q.2).map fun n => (n, q.2 + 1)).map fun r => ({ j with base := p.1, cap := q.1, stable := r.1 }, r.2) := by
  unfold gItem
  rw [if_neg (by decide), if_neg (by decide), if_neg (by decide), if_neg (by decide), if_neg (by decide), if_pos rfl]
  cases h1 : gNum ts k with
  | error f => rfl
  | ok a =>
    simp only [Except.map, bind, Except.bind]
    cases h2 : gNum ts (k + 1) with
    | error f => rfl
    | ok b =>
      simp only [Except.map, bind, Except.bind]
      cases h3 : gNum ts (k + 2) <;> simp [h3]
theorem gItem_burst : gItem ts k wBurst j = gBurst ts k j := by
  unfold gItem
  rw [if_neg (by decide), if_neg (by decide), if_neg (by decide), if_neg (by decide), if_neg (by decide), if_neg (by decide), if_pos rfl]
  rfl
theorem gItem_stop : gItem ts k wStop j = (gList (gRung ts) 2 ts k []).map fun p => ({ j with ladder := p.1 }, p.2) := by
  unfold gItem
  rw [if_neg (by decide), if_neg (by decide), if_neg (by decide), if_neg (by decide), if_neg (by decide), if_neg (by decide), if_neg (by decide)]
end
end Go.Proofs.YtkhhlmonhapmaaaGreatDoor
/- The reference's parser, exact: a job. -/
namespace Go.Proofs.YtkhhlmonhapmaaaGreatDoor
open Go.RowKit
set_option linter.unusedSimpArgs false
set_option linter.unusedVariables false
def JF.zero : JF := ⟨[], [], [], [], false, [], 0, 0, 0, 0, 0, 0, [], 0, 0⟩
def Short (ts : List Tok) : Prop := ∀ t ∈ ts, t.text.length ≤ 8192
theorem gItems_bad {ts : List Tok} {name : Tok} {k : Nat} {seen : List (List UInt8)} {j : JF} (h : gIs ts k [125] = false) (h2 : (tkA ts k).kind ≠ 1 ∨ ¬ (tkA ts k).text ∈ items) : gItems ts name k seen j = .error (flt 60 (tkA ts k)) := by
  rw [gItems, if_neg (by rw [h]; decide), if_pos (by simpa using h2)]
theorem gItems_two {ts : List Tok} {name : Tok} {k : Nat} {seen : List (List UInt8)} {j : JF} (h : gIs ts k [125] = false) (h2 : (tkA ts k).kind = 1) (h3 : (tkA ts k).text ∈ items) (h4 : (tkA ts k).text ≠ wEnv) (h5 : seen.contains (tkA ts k).text = true) : gItems ts name k seen j = .error (flt 5 (tkA ts k)) := by
  rw [gItems, if_neg (by rw [h]; decide), if_neg (by simp [h2, h3]), if_pos ⟨h4, h5⟩]
theorem gItems_step {ts : List Tok} {name : Tok} {k : Nat} {seen : List (List UInt8)} {j : JF} (h : gIs ts k [125] = false) (h2 : (tkA ts k).kind = 1) (h3 : (tkA ts k).text ∈ items) (h4 : ¬ ((tkA ts k).text ≠ wEnv ∧ seen.contains (tkA ts k).text = true)) : gItems ts name k seen j = gItem ts (k + 1) (tkA ts k).text j >>= fun x => if k < x.2 ∧ k < ts.length then gItems ts name x.2 (if (tkA ts k).text = wEnv then seen else seen ++ [(tkA ts k).text]) x.1 else .error (flt 60 (tkA ts k)) := by
  rw [gItems, if_neg (by rw [h]; decide), if_neg (by simp [h2, h3]), if_neg h4]
  cases gItem ts (k + 1) (tkA ts k).text j with
  | error f => rfl
  | ok x => simp only [bind, Except.bind]; split <;> rfl
/-- A fault ahead: whatever ought to be read. -/
theorem Got.off {α β : Type} {ts : List Tok} {s s' : PS} {x : Except Flt (α × Nat)} {y : Except Flt (β × Nat)} {v : α} {w : β} (h : Got ts s x s' v) (hb : s.e ≠ 0) : Got ts s y s' w := ⟨h.1, h.2.1, h.2.2.1, fun e => absurd e hb⟩
theorem Got.flt {α β : Type} {ts : List Tok} {s s' : PS} {f : Flt} {v : α} {w : β} (h : Got ts s (.error f : Except Flt (α × Nat)) s' v) : Got ts s (.error f : Except Flt (β × Nat)) s' w := h
end Go.Proofs.YtkhhlmonhapmaaaGreatDoor
