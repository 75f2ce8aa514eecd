import Derived.Test.YtkhhlmonhapmaaaGreatDoorW16
import Derived.Test.YtkhhlmonhapmaaaGreatDoorW11
import Derived.Test.YtkhhlmonhapmaaaGreatDoorW12
/- The reference's parser: what it sees. -/
namespace Go.Proofs.YtkhhlmonhapmaaaGreatDoor
open Go.RowKit
set_option linter.unusedSimpArgs false
set_option linter.unusedVariables false
def pc (ts : List Tok) (k : Nat) (e l c : Int) (sv : AV) : List AV := [.sq ts.length (ta ts), .x (.int .i64 k), .x (.int .i64 e), .x (.int .i64 l), .x (.int .i64 c), sv]
def Tok.av (t : Tok) : AV := .x (.agg #[.int .i64 t.kind, .string (bs t.text), .int .i64 (t.line : Nat), .int .i64 (t.col : Nat)])
set_option maxRecDepth 100000 in
set_option maxHeartbeats 8000000 in
theorem now_s (ts : List Tok) (k : Nat) (e l c : Int) (sv : AV) (hk : k < ts.length) (hl : ts.length ≤ 1000000) : Spec Tryz.prog 36 [] [.at_ (pc ts k e l c sv)] (fun r H' => r = ts[k].av ∧ H' = []) := by
  unfold pc
  refine Spec_of Tryz.func36 rfl ?_
  simp only [Tryz.ntmps36, List.length_cons, List.length_nil, List.replicate_succ, List.replicate_zero, List.cons_append, List.nil_append, Nat.reduceAdd, Nat.reduceSub]
  (repeat' (first | with_reducible (first | refine awp_seq ?_ | refine awp_region ?_ | refine awpL_nil ?_ | refine thenA_normal ?_) | (refine awpL_cons rfl ?_; (((refine Stp_k 14 rfl ?_; ((refine Stp_alloc _ _ rfl HZero.out rfl (fun b => ?_))))); apply awpL_cong; (case hT => ((try simp only [wtn]); rfl)); (case hH => ((try simp only [wtn]); rfl)))) | fail))
  refine awp_drawnA mixed ?_
  (apply awpA_take 0 rfl rfl (by kernel_rfl) (by intro c T H hp; simp [thenA, inBlockA, jumpA, endA] at hp); (case h => (first | exact WInd_mv _ rfl | fail)); (apply awpA_cong; (case hT => ((try simp only [wtn]); rfl)); (case hH => rfl))); (apply awpA_take 1 rfl rfl (by kernel_rfl) (by intro c T H hp; simp [thenA, inBlockA, jumpA, endA] at hp); (case h => (first | exact WInd_nil_at _ _ rfl rfl | fail)); (apply awpA_cong; (case hT => ((try simp only [wtn]); rfl)); (case hH => rfl))); (apply awpA_take 2 rfl rfl (by kernel_rfl) (by intro c T H hp; simp [thenA, inBlockA, jumpA, endA] at hp); (case h => (first | exact WInd_field_at _ _ _ _ _ rfl rfl HFld.out | fail)); (apply awpA_cong; (case hT => ((try simp only [wtn]); rfl)); (case hH => rfl))); (apply awpA_take 4 rfl rfl (by kernel_rfl) (by intro c T H hp; simp [thenA, inBlockA, jumpA, endA] at hp); (case h => (first | exact WInd_mv _ rfl | fail)); (apply awpA_cong; (case hT => ((try simp only [wtn]); rfl)); (case hH => rfl))); (apply awpA_take 5 rfl rfl (by kernel_rfl) (by intro c T H hp; simp [thenA, inBlockA, jumpA, endA] at hp); (case h => (first | exact WInd_nil_at _ _ rfl rfl | fail)); (apply awpA_cong; (case hT => ((try simp only [wtn]); rfl)); (case hH => rfl))); (apply awpA_take 6 rfl rfl (by kernel_rfl) (by intro c T H hp; simp [thenA, inBlockA, jumpA, endA] at hp); (case h => (first | exact WInd_field_at _ _ _ _ _ rfl rfl HFld.out | fail)); (apply awpA_cong; (case hT => ((try simp only [wtn]); rfl)); (case hH => rfl)))
  refine awpA_2 3 7 (by decide +kernel) rfl rfl rfl rfl ?_ ?_
  · (first | (apply Stp_evl; (case h => ((apply Evl_k 6 rfl; (exact Evl_load_at _ _ _ _ _ rfl rfl HAgg.out (by first | exact Nat.le_of_ble_eq_true rfl | fail) (by first | exact Nat.le_of_ble_eq_true rfl | fail))))); (apply awpA_cong; (case hT => ((try simp only [wtn]); rfl)); (case hH => rfl))) | fail)
    (refine awpA_1 7 (by decide +kernel) rfl rfl ?_; (first | (apply Stp_evl; (case h => ((apply Evl_k 6 rfl; (exact Evl_load_at _ _ _ _ _ rfl rfl HAgg.out (by first | exact Nat.le_of_ble_eq_true rfl | fail) (by first | exact Nat.le_of_ble_eq_true rfl | fail))))); (apply awpA_cong; (case hT => ((try simp only [wtn]); rfl)); (case hH => rfl))) | fail))
    (repeat ((first | refine awpA_1 8 (by decide +kernel) rfl rfl ?_ | refine awpA_1 9 (by decide +kernel) rfl rfl ?_ | refine awpA_1 10 (by decide +kernel) rfl rfl ?_ | fail); (first | (apply Stp_evl; (case h => (first | (apply Evl_k 6 rfl; (exact Evl_load_at _ _ _ _ _ rfl rfl HAgg.out (by first | exact Nat.le_of_ble_eq_true rfl | fail) (by first | exact Nat.le_of_ble_eq_true rfl | fail))) | (apply Evl_k 7 rfl; (exact Evl_index_sq _ _ _ _ _ _ _ _ _ _ rfl rfl rfl HEl.out rfl (by first | omega | fail) (by simp; first | omega | fail))))); (apply awpA_cong; (case hT => ((try simp (disch := assumption) only [wtn, ta_drop, Tok.cells, List.append_eq, List.foldl_cons, List.foldl_nil, List.map_cons, List.map_nil, Nat.reduceAdd, Nat.reduceMul, Nat.reduceSub, ↓reduceIte, Nat.reduceEqDiff]); rfl)); (case hH => rfl))) | (((refine Stp_k 16 rfl ?_; ((refine Stp_store _ _ _ _ _ _ _ rfl rfl FBox.out HSize.out (by first | rfl | fail) (by first | exact Nat.le_of_ble_eq_true rfl | fail) ?_)))); apply awpA_cong; (case hT => ((try simp (disch := omega) only [wtn, ta_drop, Tok.cells, List.append_eq, List.foldl_cons, List.foldl_nil, List.map_cons, List.map_nil, Nat.reduceAdd, Nat.reduceMul, Nat.reduceSub, ↓reduceIte, Nat.reduceEqDiff]); rfl)); (case hH => ((try simp (disch := omega) only [wtn, ta_drop, Tok.cells, List.append_eq, List.foldl_cons, List.foldl_nil, List.map_cons, List.map_nil, Nat.reduceAdd, Nat.reduceMul, Nat.reduceSub, ↓reduceIte, Nat.reduceEqDiff]); rfl))) | fail)))
    refine awpA_done (by decide +kernel) ?_
    (repeat' (first | with_reducible (first | refine awp_ret ?_ | refine thenA_normal ?_) | fail))
    refine endA_ret _ _ (Res1 rfl (RV.cell 0 rfl rfl HAgg.out (by simp) (by simp)) (Weak.mk' [_] [] (List.Perm.refl _) VwHs.nil (VwL.refl _ _))) ?_
    exact ⟨rfl, rfl⟩
  · (first | (apply Stp_evl; (case h => ((apply Evl_k 6 rfl; (exact Evl_load_at _ _ _ _ _ rfl rfl HAgg.out (by first | exact Nat.le_of_ble_eq_true rfl | fail) (by first | exact Nat.le_of_ble_eq_true rfl | fail))))); (apply awpA_cong; (case hT => ((try simp only [wtn]); rfl)); (case hH => rfl))) | fail)
    (refine awpA_1 3 (by decide +kernel) rfl rfl ?_; (first | (apply Stp_evl; (case h => ((apply Evl_k 6 rfl; (exact Evl_load_at _ _ _ _ _ rfl rfl HAgg.out (by first | exact Nat.le_of_ble_eq_true rfl | fail) (by first | exact Nat.le_of_ble_eq_true rfl | fail))))); (apply awpA_cong; (case hT => ((try simp only [wtn]); rfl)); (case hH => rfl))) | fail))
    (repeat ((first | refine awpA_1 8 (by decide +kernel) rfl rfl ?_ | refine awpA_1 9 (by decide +kernel) rfl rfl ?_ | refine awpA_1 10 (by decide +kernel) rfl rfl ?_ | fail); (first | (apply Stp_evl; (case h => (first | (apply Evl_k 6 rfl; (exact Evl_load_at _ _ _ _ _ rfl rfl HAgg.out (by first | exact Nat.le_of_ble_eq_true rfl | fail) (by first | exact Nat.le_of_ble_eq_true rfl | fail))) | (apply Evl_k 7 rfl; (exact Evl_index_sq _ _ _ _ _ _ _ _ _ _ rfl rfl rfl HEl.out rfl (by first | omega | fail) (by simp; first | omega | fail))))); (apply awpA_cong; (case hT => ((try simp (disch := assumption) only [wtn, ta_drop, Tok.cells, List.append_eq, List.foldl_cons, List.foldl_nil, List.map_cons, List.map_nil, Nat.reduceAdd, Nat.reduceMul, Nat.reduceSub, ↓reduceIte, Nat.reduceEqDiff]); rfl)); (case hH => rfl))) | (((refine Stp_k 16 rfl ?_; ((refine Stp_store _ _ _ _ _ _ _ rfl rfl FBox.out HSize.out (by first | rfl | fail) (by first | exact Nat.le_of_ble_eq_true rfl | fail) ?_)))); apply awpA_cong; (case hT => ((try simp (disch := omega) only [wtn, ta_drop, Tok.cells, List.append_eq, List.foldl_cons, List.foldl_nil, List.map_cons, List.map_nil, Nat.reduceAdd, Nat.reduceMul, Nat.reduceSub, ↓reduceIte, Nat.reduceEqDiff]); rfl)); (case hH => ((try simp (disch := omega) only [wtn, ta_drop, Tok.cells, List.append_eq, List.foldl_cons, List.foldl_nil, List.map_cons, List.map_nil, Nat.reduceAdd, Nat.reduceMul, Nat.reduceSub, ↓reduceIte, Nat.reduceEqDiff]); rfl))) | fail)))
    refine awpA_done (by decide +kernel) ?_
    (repeat' (first | with_reducible (first | refine awp_ret ?_ | refine thenA_normal ?_) | fail))
    refine endA_ret _ _ (Res1 rfl (RV.cell 0 rfl rfl HAgg.out (by simp) (by simp)) (Weak.mk' [_] [] (List.Perm.refl _) VwHs.nil (VwL.refl _ _))) ?_
    exact ⟨rfl, rfl⟩
set_option maxRecDepth 100000 in
set_option maxHeartbeats 8000000 in
theorem failed_s (ts : List Tok) (k : Nat) (e l c : Int) (sv : AV) : Spec Tryz.prog 38 [] [.at_ (pc ts k e l c sv)] (fun r H' => r = .x (.bool (!(e == 0))) ∧ H' = []) := by
  unfold pc
  refine Spec_of Tryz.func38 rfl ?_
  simp only [Tryz.ntmps38, List.length_cons, List.length_nil, List.replicate_succ, List.replicate_zero, List.cons_append, List.nil_append, Nat.reduceAdd, Nat.reduceSub]
  (repeat' (first | with_reducible (first | refine awp_seq ?_ | refine awp_region ?_ | refine awp_ret ?_ | refine awpL_nil ?_ | refine thenA_normal ?_) | ((apply awpL_evl2 rfl); (case h => ((first | (apply Evl_k 0 rfl; (first | exact Evl_mv _ rfl | exact Evl_as _ rfl)) | (apply Evl_k 4 rfl; (exact Evl_nil _ rfl (by first | exact .inr ⟨_, rfl⟩ | fail))) | (apply Evl_k 5 rfl; (exact Evl_field_at _ _ _ _ _ rfl rfl HFld.out)) | (apply Evl_k 6 rfl; (exact Evl_load_at _ _ _ _ _ rfl rfl HAgg.out (by first | exact Nat.le_of_ble_eq_true rfl | fail) (by first | exact Nat.le_of_ble_eq_true rfl | fail))) | (apply Evl_x; (case hs => (intro _ _ h; cases h)); (case hx => rfl); (case hrun => (intro w; simp [wtb, AV.val, go_sem]; skip; rfl)))))); (case hT => ((try simp only [wtn]); rfl))) | fail))
  refine endA_ret _ _ (Res1 rfl (RV.tmp _) (Weak.mk' [] _ (List.Perm.refl _) (VwHs.refl _ _) (VwL.refl _ _))) ?_
  exact ⟨rfl, rfl⟩
def isP (ts : List Tok) (k : Nat) (e : Int) (kind : Int) (s : List UInt8) : Bool := e == 0 && (match ts[k]? with | some t => t.kind == kind && t.text == s | none => false)
set_option maxRecDepth 100000 in
set_option maxHeartbeats 8000000 in
theorem is_s (ts : List Tok) (k : Nat) (e l c : Int) (sv : AV) (kind : Int) (s : List UInt8) (hk : k < ts.length) (hl : ts.length ≤ 1000000) : Spec Tryz.prog 60 [] [.at_ (pc ts k e l c sv), .x (.int .i64 kind), .x (.string (bs s))] (fun r H' => r = .x (.bool (isP ts k e kind s)) ∧ H' = []) := by
  have hn := now_s ts k e l c sv hk hl
  have hf := failed_s ts k e l c sv
  unfold Tok.av at hn
  refine Spec_of Tryz.func60 rfl ?_
  simp only [Tryz.ntmps60, List.length_cons, List.length_nil, List.replicate_succ, List.replicate_zero, List.cons_append, List.nil_append, Nat.reduceAdd, Nat.reduceSub]
  (repeat' (first | with_reducible (first | refine awp_seq ?_ | refine awp_region ?_ | refine awp_ret ?_ | refine awpL_nil ?_ | refine thenA_normal ?_) | ((first | apply awpL_evl2 rfl | apply awpL_g2 _ _ rfl rfl rfl); (case h => ((try (intro (hp : (_ : Bool) = true); ((try simp only [Bool.and_eq_true] at hp); (try simp only [hp, wte]); (try simp only [whn] at hp)))); (first | (apply Evl_k 0 rfl; (first | exact Evl_mv _ rfl | exact Evl_as _ rfl)) | (apply Evl_k 1 rfl; (exact Evl_and _ _ _ _ _ rfl rfl rfl rfl)) | (apply Evl_k 11 rfl; (first | exact Evl_call 36 Tryz.f36 _ _ rfl rfl Tryz.func36 (by decide) rfl (VwL.refl _ _) (hn) | exact Evl_call 38 Tryz.f38 _ _ rfl rfl Tryz.func38 (by decide) rfl (VwL.refl _ _) (hf))) | (apply Evl_x; (case hs => (intro _ _ h; cases h)); (case hx => rfl); (case hrun => (intro w; simp [wtb, AV.val, go_sem]; skip; rfl)))))); (case hT => ((try simp only [wtn]); rfl))) | fail))
  refine endA_ret _ _ (Res1 rfl (RV.tmp _) (Weak.mk' [] _ (List.Perm.refl _) (VwHs.refl _ _) (VwL.refl _ _))) ?_
  refine ⟨?_, rfl⟩
  simp [ev, isP, hk, Bool.and_assoc]
set_option maxRecDepth 100000 in
set_option maxHeartbeats 8000000 in
theorem rhas_s (l : List (List UInt8)) (s : List UInt8) (hl : l.length ≤ 1000000) : Spec Tryz.prog 65 [] [.sq l.length (sa l), .x (.string (bs s))] (fun r H' => r = .x (.bool (decide (s ∈ l))) ∧ H' = []) := by
  refine Spec_of Tryz.func65 rfl ?_
  simp only [Tryz.ntmps65, List.length_cons, List.length_nil, List.replicate_succ, List.replicate_zero, List.cons_append, List.nil_append, Nat.reduceAdd, Nat.reduceSub]
  (repeat' (first | with_reducible (first | refine awp_seq ?_ | refine awp_region ?_ | refine awp_block ?_ | refine awpL_nil ?_ | refine thenA_normal ?_) | ((apply awpL_evl2 rfl); (case h => (((apply Evl_k 0 rfl; (exact Evl_as _ rfl))))); (case hT => ((try simp only [wtn]); rfl))) | fail))
  refine awp_loopS (S := Nat) (fun k => frm 18 [(0, .sq l.length (sa l)), (1, .x (.string (bs s))), (5, .x (.int .i64 k))]) (fun _ => []) (fun k => k ≤ l.length ∧ s ∉ l.take k) (fun k => l.length - k) 0 (Weak.mk' [] _ (List.Perm.refl _) (VwHs.refl _ _) (by (repeat' (first | exact VwL.nil | (refine VwL.cons ?_ ?_) | exact Vw.refl _ | exact Vw.top _ | fail)))) ⟨Nat.zero_le _, by simp⟩ fun k hk => ?_
  simp only [frm, List.replicate_succ, List.replicate_zero, List.foldl_cons, List.foldl_nil, List.set_cons_zero, List.set_cons_succ]
  obtain ⟨hk, hn⟩ := hk
  have hn' := Lib.hid hn
  clear hn
  (repeat' (first | with_reducible (first | refine awp_seq ?_ | refine awp_region ?_ | refine awp_block ?_ | refine awp_ret ?_ | refine awp_skip ?_ | refine awp_exit ?_ | refine awpL_nil ?_ | refine thenA_normal ?_ | refine thenA_exit ?_ | refine thenA_ret ?_ | refine inBlockA_eq ?_ | refine inBlockA_normal ?_ | refine inBlockA_ret ?_) | (refine awp_cond _ rfl (fun h => ?_) (fun h => ?_) <;> ((try (simp only [whn] at h)); skip)) | ((apply awpL_evl2 rfl); (case h => ((first | (apply Evl_k 0 rfl; (first | exact Evl_mv _ rfl | exact Evl_as _ rfl)) | (apply Evl_k 3 rfl; (exact Evl_len _ _ _ _ _ _ HEl.out rfl rfl)) | (apply Evl_k 6 rfl; (exact Evl_load_at _ _ _ _ _ rfl rfl HAgg.out (by first | exact Nat.le_of_ble_eq_true rfl | fail) (by first | exact Nat.le_of_ble_eq_true rfl | fail))) | (apply Evl_k 7 rfl; (exact Evl_index_sq _ _ _ _ _ _ _ _ _ _ rfl rfl rfl HEl.out rfl (by first | omega | fail) (by simp; first | omega | fail))) | (apply Evl_x; (case hs => (intro _ _ h; cases h)); (case hx => rfl); (case hrun => (intro w; simp [wtb, AV.val, go_sem]; (try go_bits); rfl)))))); (case hT => ((try simp (disch := assumption) only [wtn, sa_drop, List.append_eq, List.foldl_cons, List.foldl_nil, List.map_cons, List.map_nil, Nat.reduceAdd, Nat.reduceMul, Nat.reduceSub, ↓reduceIte, Nat.reduceEqDiff]); rfl))) | fail))
  · refine endA_ret _ _ (Res1 rfl (RV.tmp _) (Weak.mk' [] _ (List.Perm.refl _) (VwHs.refl _ _) (VwL.refl _ _))) ?_
    exact ⟨by simp [ev, ← h], rfl⟩
  · exact ⟨k + 1, by omega, ⟨by omega, by rw [take_snoc' l k (by assumption)]; simp only [List.mem_append, List.mem_singleton, not_or]; exact ⟨hn'.out, fun e => h e.symm⟩⟩, (Weak.mk' [] _ (List.Perm.refl _) (VwHs.refl _ _) (by (repeat' (first | exact VwL.nil | (refine VwL.cons ?_ ?_) | exact Vw.refl _ | exact Vw.top _ | fail))))⟩
  · refine endA_ret _ _ (Res1 rfl (RV.tmp _) (Weak.mk' [] _ (List.Perm.refl _) (VwHs.refl _ _) (VwL.refl _ _))) ?_
    have hn := hn'.out
    rw [List.take_of_length_le (by omega)] at hn
    exact ⟨by simp [ev, hn], rfl⟩
end Go.Proofs.YtkhhlmonhapmaaaGreatDoor
/- The reference's parser: a token taken, a sign, a number. -/
namespace Go.Proofs.YtkhhlmonhapmaaaGreatDoor
open Go.RowKit
set_option linter.unusedSimpArgs false
set_option linter.unusedVariables false
def VT (ts : List Tok) : Prop := ∀ k, (h : k < ts.length) → ts[k].kind ≠ 6 → k + 1 < ts.length
structure St (ts : List Tok) (k : Nat) (e : Int) (k' : Nat) (e' : Int) : Prop where
  le : k ≤ k'
  lt : k' < ts.length
  bad : e' = 0 → e = 0
end Go.Proofs.YtkhhlmonhapmaaaGreatDoor
/- The reference's parser: numbers, policies, names. -/
namespace Go.Proofs.YtkhhlmonhapmaaaGreatDoor
open Go.RowKit
set_option linter.unusedSimpArgs false
set_option linter.unusedVariables false
end Go.Proofs.YtkhhlmonhapmaaaGreatDoor
/- Rows of rungs. -/
namespace Go.Proofs.YtkhhlmonhapmaaaGreatDoor
open Go.RowKit
set_option linter.unusedSimpArgs false
set_option linter.unusedVariables false
def ra (l : List (Int × Int)) : List AV := l.flatMap fun s => [.x (.int .i64 s.1), .x (.int .u64 s.2)]
@[simp] theorem ra_len (l : List (Int × Int)) : (ra l).length = l.length * 2 := by
  induction l with
  | nil => rfl
  | cons j l ih => simp only [ra, List.flatMap_cons, List.length_append, List.length_cons] at ih ⊢; rw [ih]; simp; omega
theorem ra_app (l m : List (Int × Int)) : ra (l ++ m) = ra l ++ ra m := by simp [ra]
end Go.Proofs.YtkhhlmonhapmaaaGreatDoor
/- A job, whole: its cells. -/
namespace Go.Proofs.YtkhhlmonhapmaaaGreatDoor
open Go.RowKit
set_option linter.unusedSimpArgs false
set_option linter.unusedVariables false
def ea (l : List (List UInt8 × List UInt8)) : List AV := l.flatMap fun s => [.x (.string (bs s.1)), .x (.string (bs s.2))]
@[simp] theorem ea_len (l : List (List UInt8 × List UInt8)) : (ea l).length = l.length * 2 := by
  induction l with
  | nil => rfl
  | cons j l ih => simp only [ea, List.flatMap_cons, List.length_append, List.length_cons] at ih ⊢; rw [ih]; simp; omega
theorem ea_app (l m : List (List UInt8 × List UInt8)) : ea (l ++ m) = ea l ++ ea m := by simp [ea]
structure JF where
  name : List UInt8
  run : List UInt8
  env : List (List UInt8 × List UInt8)
  needs : List (List UInt8)
  hasr : Bool
  ready : List UInt8
  restart : Int
  base : Int
  cap : Int
  stable : Int
  burst : Int
  window : Int
  ladder : List (Int × Int)
  line : Int
  col : Int
def JF.cells (j : JF) : List AV := [.x (.string (bs j.name)), .x (.string (bs j.run)), .sq j.env.length (ea j.env), .sq j.needs.length (sa j.needs), .x (.bool j.hasr), .x (.string (bs j.ready)), .x (.int .i64 j.restart), .x (.int .u64 j.base), .x (.int .u64 j.cap), .x (.int .u64 j.stable), .x (.int .i64 j.burst), .x (.int .u64 j.window), .sq j.ladder.length (ra j.ladder), .x (.int .i64 j.line), .x (.int .i64 j.col)]
def U64 (v : Int) : Prop := 0 ≤ v ∧ v ≤ 18446744073709551615
structure JSmall (j : JF) : Prop where
  name : j.name.length ≤ 8
  run : j.run.length ≤ 16
  env : j.env.length ≤ 2
  enve : ∀ p ∈ j.env, p.1.length ≤ 8 ∧ p.2.length ≤ 8
  needs : j.needs.length ≤ 4
  neede : ∀ s ∈ j.needs, s.length ≤ 8
  ready : j.ready.length ≤ 16
  ladder : j.ladder.length ≤ 4
  laddere : ∀ p ∈ j.ladder, U64 p.2
  base : U64 j.base
  cap : U64 j.cap
  stable : U64 j.stable
  window : U64 j.window
  burst : -9223372036854775808 ≤ j.burst ∧ j.burst ≤ 9223372036854775807
theorem ea_drop (l : List (List UInt8 × List UInt8)) (k : Nat) (h : k < l.length) : (ea l).drop (k * 2) = .x (.string (bs l[k].1)) :: .x (.string (bs l[k].2)) :: ea (l.drop (k + 1)) := by
  induction l generalizing k with
  | nil => simp at h
  | cons j l ih =>
    cases k with
    | zero => simp [ea]
    | succ k =>
      simp only [ea, List.flatMap_cons, List.drop_succ_cons, List.getElem_cons_succ] at ih ⊢
      rw [show (k + 1) * 2 = 2 + k * 2 from by omega, ← List.drop_drop]
      exact ih k (by simpa using h)
theorem ra_drop (l : List (Int × Int)) (k : Nat) (h : k < l.length) : (ra l).drop (k * 2) = .x (.int .i64 l[k].1) :: .x (.int .u64 l[k].2) :: ra (l.drop (k + 1)) := by
  induction l generalizing k with
  | nil => simp at h
  | cons j l ih =>
    cases k with
    | zero => simp [ra]
    | succ k =>
      simp only [ra, List.flatMap_cons, List.drop_succ_cons, List.getElem_cons_succ] at ih ⊢
      rw [show (k + 1) * 2 = 2 + k * 2 from by omega, ← List.drop_drop]
      exact ih k (by simpa using h)
def jfa (l : List JF) : List AV := l.flatMap JF.cells
@[simp] theorem jfa_len (l : List JF) : (jfa l).length = l.length * 15 := by
  induction l with
  | nil => rfl
  | cons j l ih => simp only [jfa, List.flatMap_cons, List.length_append, List.length_cons] at ih ⊢; rw [ih]; simp [JF.cells]; omega
theorem jfa_drop (l : List JF) (k : Nat) (h : k < l.length) : (jfa l).drop (k * 15) = l[k].cells ++ jfa (l.drop (k + 1)) := by
  induction l generalizing k with
  | nil => simp at h
  | cons j l ih =>
    cases k with
    | zero => simp [jfa]
    | succ k =>
      simp only [jfa, List.flatMap_cons, List.drop_succ_cons, List.getElem_cons_succ] at ih ⊢
      rw [show (k + 1) * 15 = j.cells.length + k * 15 from by simp [JF.cells]; omega, ← List.drop_drop, List.drop_append_length]
      exact ih k (by simpa using h)
theorem jfa_drop' (l : List JF) (k : Nat) (h : k < l.length) : (jfa l).drop (k * 15) = .x (.string (bs l[k].name)) :: .x (.string (bs l[k].run)) :: .sq l[k].env.length (ea l[k].env) :: .sq l[k].needs.length (sa l[k].needs) :: .x (.bool l[k].hasr) :: .x (.string (bs l[k].ready)) :: .x (.int .i64 l[k].restart) :: .x (.int .u64 l[k].base) :: .x (.int .u64 l[k].cap) :: .x (.int .u64 l[k].stable) :: .x (.int .i64 l[k].burst) :: .x (.int .u64 l[k].window) :: .sq l[k].ladder.length (ra l[k].ladder) :: .x (.int .i64 l[k].line) :: .x (.int .i64 l[k].col) :: jfa (l.drop (k + 1)) := jfa_drop l k h
end Go.Proofs.YtkhhlmonhapmaaaGreatDoor
/- The jobs of a Procfile, in plain Lean: what both parsers compute. No program in sight. -/
namespace Go.Proofs.YtkhhlmonhapmaaaGreatDoor
open Go.RowKit
set_option linter.unusedSimpArgs false
set_option linter.unusedVariables false
def tkA (ts : List Tok) (k : Nat) : Tok := ts.getD k ⟨6, [], 0, 0⟩
def flt (e : Int) (t : Tok) : Flt := ⟨e, t.line, t.col⟩
def gTake (ts : List Tok) (k : Nat) (kind : Int) (most : Nat) : Except Flt Tok :=
  if (tkA ts k).kind ≠ kind then .error (flt 60 (tkA ts k)) else if most < (tkA ts k).text.length then .error (flt 1 (tkA ts k)) else .ok (tkA ts k)
def gIs (ts : List Tok) (k : Nat) (s : List UInt8) : Bool := (tkA ts k).kind == 5 && (tkA ts k).text == s
def gSign (ts : List Tok) (k : Nat) (s : List UInt8) : Except Flt Unit := if gIs ts k s then .ok () else .error (flt 60 (tkA ts k))
def numv (l : List UInt8) : Int := l.foldl (fun n c => 10 * n + (c.toNat - 48)) 0
def gNum (ts : List Tok) (k : Nat) : Except Flt Int := (gTake ts k 2 8192).map fun t => numv t.text
def wRun : List UInt8 := [114, 117, 110]
def wEnv : List UInt8 := [101, 110, 118]
def wNeeds : List UInt8 := [110, 101, 101, 100, 115]
def wReady : List UInt8 := [114, 101, 97, 100, 121]
def wRestart : List UInt8 := [114, 101, 115, 116, 97, 114, 116]
def wBackoff : List UInt8 := [98, 97, 99, 107, 111, 102, 102]
def wBurst : List UInt8 := [98, 117, 114, 115, 116]
def wStop : List UInt8 := [115, 116, 111, 112]
def wJob : List UInt8 := [106, 111, 98]
def items : List (List UInt8) := [wRun, wEnv, wNeeds, wReady, wRestart, wBackoff, wBurst, wStop]
def sigv (s : List UInt8) : Int :=
  if s = [72, 85, 80] then 1 else if s = [73, 78, 84] then 2 else if s = [81, 85, 73, 84] then 3 else if s = [85, 83, 82, 49] then 10 else if s = [85, 83, 82, 50] then 12 else if s = [84, 69, 82, 77] then 15 else 0
def gName (ts : List Tok) (k : Nat) (full : Bool) : Except Flt Tok := do
  let t ← gTake ts k 1 32
  if full then .error (flt 1 t) else .ok t
def gVar (ts : List Tok) (k : Nat) (env : List (List UInt8 × List UInt8)) : Except Flt (List UInt8 × List UInt8) := do
  let t ← gName ts k (decide (16 ≤ env.length))
  if env.any (·.1 == t.text) then .error (flt 5 t) else
  gSign ts (k + 1) [61]
  let v ← gTake ts (k + 2) 3 512
  .ok (t.text, v.text)
def gNeed (ts : List Tok) (k : Nat) (out : List (List UInt8)) : Except Flt (List UInt8) := do
  let t ← gName ts k (decide (16 ≤ out.length))
  if out.contains t.text then .error (flt 5 t) else .ok t.text
def gRung (ts : List Tok) (k : Nat) (out : List (Int × Int)) : Except Flt (Int × Int) := do
  let t ← gTake ts k 1 8192
  if 5 ≤ out.length then .error (flt 1 t) else
  if sigv t.text = 0 then .error (flt 4 t) else
  let n ← gNum ts (k + 1)
  .ok (sigv t.text, n)
def gList {α : Type} (el : Nat → List α → Except Flt α) (st : Nat) (ts : List Tok) (k : Nat) (out : List α) : Except Flt (List α × Nat) :=
  match el k out with
  | .error f => .error f
  | .ok x => if h : k + st < ts.length ∧ gIs ts (k + st) [44] = true then gList el st ts (k + st + 1) (out ++ [x]) else .ok (out ++ [x], k + st)
termination_by ts.length - k
decreasing_by omega
def gPol (ts : List Tok) (k : Nat) : Except Flt Int := do
  let t ← gTake ts k 1 8192
  if t.text = [97, 108, 119, 97, 121, 115] then .ok 3 else if t.text = [111, 110, 45, 102, 97, 105, 108, 117, 114, 101] then .ok 2 else if t.text = [110, 101, 118, 101, 114] then .ok 1 else .error (flt 60 t)
def gItem (ts : List Tok) (k : Nat) (w : List UInt8) (j : JF) : Except Flt (JF × Nat) :=
  if w = wRun then (gTake ts k 3 512).map fun t => ({ j with run := t.text }, k + 1)
  else if w = wEnv then (gVar ts k j.env).map fun v => ({ j with env := j.env ++ [v] }, k + 3)
  else if w = wNeeds then (gList (gNeed ts) 1 ts k []).map fun x => ({ j with needs := x.1 }, x.2)
  else if w = wReady then (gTake ts k 4 128).map fun t => ({ j with hasr := true, ready := t.text }, k + 1)
  else if w = wRestart then (gPol ts k).map fun n => ({ j with restart := n }, k + 1)
  else if w = wBackoff then do
    let a ← gNum ts k
    let b ← gNum ts (k + 1)
    let c ← gNum ts (k + 2)
    .ok ({ j with base := a, cap := b, stable := c }, k + 3)
  else if w = wBurst then do
    let n ← gNum ts k
    if n < 1 ∨ 16 < n then .error (flt 2 (tkA ts k)) else
    let m ← gNum ts (k + 1)
    .ok ({ j with burst := n, window := m }, k + 2)
  else (gList (gRung ts) 2 ts k []).map fun x => ({ j with ladder := x.1 }, x.2)
def gItems (ts : List Tok) (name : Tok) (k : Nat) (seen : List (List UInt8)) (j : JF) : Except Flt (JF × Nat) :=
  if gIs ts k [125] then (if seen.contains wRun then .ok (j, k + 1) else .error (flt 6 name))
  else if (tkA ts k).kind ≠ 1 ∨ ¬ items.contains (tkA ts k).text then .error (flt 60 (tkA ts k))
  else if (tkA ts k).text ≠ wEnv ∧ seen.contains (tkA ts k).text then .error (flt 5 (tkA ts k))
  else match gItem ts (k + 1) (tkA ts k).text j with
    | .error f => .error f
    | .ok x => if h : k < x.2 ∧ k < ts.length then gItems ts name x.2 (if (tkA ts k).text = wEnv then seen else seen ++ [(tkA ts k).text]) x.1 else .error (flt 60 (tkA ts k))
termination_by ts.length - k
decreasing_by omega
def job0 (t : Tok) : JF := { name := t.text, run := [], env := [], needs := [], hasr := false, ready := [], restart := 2, base := 100, cap := 10000, stable := 10000, burst := 5, window := 60000, ladder := [(15, 5000)], line := t.line, col := t.col }
def gJob (ts : List Tok) (k : Nat) (full : Bool) : Except Flt (JF × Nat) := do
  let w ← gTake ts k 1 8192
  if w.text ≠ wJob then .error (flt 60 w) else
  let t ← gName ts (k + 1) full
  gSign ts (k + 2) [123]
  gItems ts t (k + 3) [] (job0 t)
def gJobs (ts : List Tok) (k : Nat) (out : List JF) : Except Flt (List JF) :=
  if (tkA ts k).kind = 6 then .ok out
  else match gJob ts k (decide (32 ≤ out.length)) with
    | .error f => .error f
    | .ok x => if h : k < x.2 ∧ k < ts.length then gJobs ts x.2 (out ++ [x.1]) else .ok out
termination_by ts.length - k
decreasing_by omega
def gParse (s : List UInt8) : Except Flt (List JF) := match lex s with
  | .error f => .error f
  | .ok ts => gJobs ts 0 []
end Go.Proofs.YtkhhlmonhapmaaaGreatDoor
