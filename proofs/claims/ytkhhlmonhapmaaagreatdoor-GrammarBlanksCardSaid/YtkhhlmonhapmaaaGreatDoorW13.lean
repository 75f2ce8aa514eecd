import Derived.Test.YtkhhlmonhapmaaaGreatDoorW12
import Derived.Test.YtkhhlmonhapmaaaGreatDoorW6
import Derived.Test.YtkhhlmonhapmaaaGreatDoorW9
import Derived.Test.YtkhhlmonhapmaaaGreatDoorW10
/- The reference's parser: what it sees. -/
set_option linter.unusedSimpArgs false
set_option linter.unusedVariables false
namespace Go.Proofs.YtkhhlmonhapmaaaGreatDoor
open Go.RowKit
def pc (ts : List Tok) (k : Nat) (e l c : Int) (sv : AV) : List AV := [.sq ts.length (ta ts), .x (.int .i64 k), .x (.int .i64 e), .x (.int .i64 l), .x (.int .i64 c), sv]
def Tok.av (t : Tok) : AV := .x (.agg #[.int .i64 t.kind, .string (bs t.text), .int .i64 (t.line : Nat), .int .i64 (t.col : Nat)])
set_option maxRecDepth 100000 in
set_option maxHeartbeats 8000000 in
theorem now_s (ts : List Tok) (k : Nat) (e l c : Int) (sv : AV) (hk : k < ts.length) (hl : ts.length ≤ 1000000) : Spec Tryz.prog 36 [] [.at_ (pc ts k e l c sv)] (fun r H' => r = ts[k].av ∧ H' = []) := by
  unfold pc
  refine Spec_of Tryz.func36 rfl ?_
  simp only [Tryz.ntmps36, List.length_cons, List.length_nil, List.replicate_succ, List.replicate_zero, List.cons_append, List.nil_append, Nat.reduceAdd, Nat.reduceSub]
  (repeat' (first | with_reducible (first | refine awp_seq ?_ | refine awp_region ?_ | refine awpL_nil ?_ | refine thenA_normal ?_) | (refine awpL_cons rfl ?_; (((refine Stp_k 14 rfl ?_; ((refine Stp_alloc _ _ rfl HZero.out rfl (fun b => ?_))))); apply awpL_cong; (case hT => ((try simp only [wtn]); rfl)); (case hH => ((try simp only [wtn]); rfl)))) | fail))
  refine awp_drawnA mixed ?_
  (apply awpA_take 0 rfl rfl (by kernel_rfl) (by intro c T H hp; simp [thenA, inBlockA, jumpA, endA] at hp); (case h => (first | exact WInd_mv _ rfl | fail)); (apply awpA_cong; (case hT => ((try simp only [wtn]); rfl)); (case hH => rfl))); (apply awpA_take 1 rfl rfl (by kernel_rfl) (by intro c T H hp; simp [thenA, inBlockA, jumpA, endA] at hp); (case h => (first | exact WInd_nil_at _ _ rfl rfl | fail)); (apply awpA_cong; (case hT => ((try simp only [wtn]); rfl)); (case hH => rfl))); (apply awpA_take 2 rfl rfl (by kernel_rfl) (by intro c T H hp; simp [thenA, inBlockA, jumpA, endA] at hp); (case h => (first | exact WInd_field_at _ _ _ _ _ rfl rfl HFld.out | fail)); (apply awpA_cong; (case hT => ((try simp only [wtn]); rfl)); (case hH => rfl))); (apply awpA_take 4 rfl rfl (by kernel_rfl) (by intro c T H hp; simp [thenA, inBlockA, jumpA, endA] at hp); (case h => (first | exact WInd_mv _ rfl | fail)); (apply awpA_cong; (case hT => ((try simp only [wtn]); rfl)); (case hH => rfl))); (apply awpA_take 5 rfl rfl (by kernel_rfl) (by intro c T H hp; simp [thenA, inBlockA, jumpA, endA] at hp); (case h => (first | exact WInd_nil_at _ _ rfl rfl | fail)); (apply awpA_cong; (case hT => ((try simp only [wtn]); rfl)); (case hH => rfl))); (apply awpA_take 6 rfl rfl (by kernel_rfl) (by intro c T H hp; simp [thenA, inBlockA, jumpA, endA] at hp); (case h => (first | exact WInd_field_at _ _ _ _ _ rfl rfl HFld.out | fail)); (apply awpA_cong; (case hT => ((try simp only [wtn]); rfl)); (case hH => rfl)))
  refine awpA_2 3 7 (by decide +kernel) rfl rfl rfl rfl ?_ ?_
  · (first | (apply Stp_evl; (case h => ((apply Evl_k 6 rfl; (exact Evl_load_at _ _ _ _ _ rfl rfl HAgg.out (by first | exact Nat.le_of_ble_eq_true rfl | fail) (by first | exact Nat.le_of_ble_eq_true rfl | fail))))); (apply awpA_cong; (case hT => ((try simp only [wtn]); rfl)); (case hH => rfl))) | fail)
    (refine awpA_1 7 (by decide +kernel) rfl rfl ?_; (first | (apply Stp_evl; (case h => ((apply Evl_k 6 rfl; (exact Evl_load_at _ _ _ _ _ rfl rfl HAgg.out (by first | exact Nat.le_of_ble_eq_true rfl | fail) (by first | exact Nat.le_of_ble_eq_true rfl | fail))))); (apply awpA_cong; (case hT => ((try simp only [wtn]); rfl)); (case hH => rfl))) | fail))
    (repeat ((first | refine awpA_1 8 (by decide +kernel) rfl rfl ?_ | refine awpA_1 9 (by decide +kernel) rfl rfl ?_ | refine awpA_1 10 (by decide +kernel) rfl rfl ?_ | fail); (first | (apply Stp_evl; (case h => (first | (apply Evl_k 6 rfl; (exact Evl_load_at _ _ _ _ _ rfl rfl HAgg.out (by first | exact Nat.le_of_ble_eq_true rfl | fail) (by first | exact Nat.le_of_ble_eq_true rfl | fail))) | (apply Evl_k 7 rfl; (exact Evl_index_sq _ _ _ _ _ _ _ _ _ _ rfl rfl rfl HEl.out rfl (by first | omega | fail) (by simp; first | omega | fail))))); (apply awpA_cong; (case hT => ((try simp (disch := assumption) only [wtn, ta_drop, Tok.cells, List.append_eq, List.foldl_cons, List.foldl_nil, List.map_cons, List.map_nil, Nat.reduceAdd, Nat.reduceMul, Nat.reduceSub, ↓reduceIte, Nat.reduceEqDiff]); rfl)); (case hH => rfl))) | (((refine Stp_k 16 rfl ?_; ((refine Stp_store _ _ _ _ _ _ _ rfl rfl FBox.out HSize.out (by first | rfl | fail) (by first | exact Nat.le_of_ble_eq_true rfl | fail) ?_)))); apply awpA_cong; (case hT => ((try simp (disch := omega) only [wtn, ta_drop, Tok.cells, List.append_eq, List.foldl_cons, List.foldl_nil, List.map_cons, List.map_nil, Nat.reduceAdd, Nat.reduceMul, Nat.reduceSub, ↓reduceIte, Nat.reduceEqDiff]); rfl)); (case hH => ((try simp (disch := omega) only [wtn, ta_drop, Tok.cells, List.append_eq, List.foldl_cons, List.foldl_nil, List.map_cons, List.map_nil, Nat.reduceAdd, Nat.reduceMul, Nat.reduceSub, ↓reduceIte, Nat.reduceEqDiff]); rfl))) | fail)))
    refine awpA_done (by decide +kernel) ?_
    (repeat' (first | with_reducible (first | refine awp_ret ?_ | refine thenA_normal ?_) | fail))
    refine endA_ret _ _ (Res1 rfl (RV.cell 0 rfl rfl HAgg.out (by simp) (by simp)) (Weak.mk' [_] [] (List.Perm.refl _) VwHs.nil (VwL.refl _ _))) ?_
    exact ⟨rfl, rfl⟩
  · (first | (apply Stp_evl; (case h => ((apply Evl_k 6 rfl; (exact Evl_load_at _ _ _ _ _ rfl rfl HAgg.out (by first | exact Nat.le_of_ble_eq_true rfl | fail) (by first | exact Nat.le_of_ble_eq_true rfl | fail))))); (apply awpA_cong; (case hT => ((try simp only [wtn]); rfl)); (case hH => rfl))) | fail)
    (refine awpA_1 3 (by decide +kernel) rfl rfl ?_; (first | (apply Stp_evl; (case h => ((apply Evl_k 6 rfl; (exact Evl_load_at _ _ _ _ _ rfl rfl HAgg.out (by first | exact Nat.le_of_ble_eq_true rfl | fail) (by first | exact Nat.le_of_ble_eq_true rfl | fail))))); (apply awpA_cong; (case hT => ((try simp only [wtn]); rfl)); (case hH => rfl))) | fail))
    (repeat ((first | refine awpA_1 8 (by decide +kernel) rfl rfl ?_ | refine awpA_1 9 (by decide +kernel) rfl rfl ?_ | refine awpA_1 10 (by decide +kernel) rfl rfl ?_ | fail); (first | (apply Stp_evl; (case h => (first | (apply Evl_k 6 rfl; (exact Evl_load_at _ _ _ _ _ rfl rfl HAgg.out (by first | exact Nat.le_of_ble_eq_true rfl | fail) (by first | exact Nat.le_of_ble_eq_true rfl | fail))) | (apply Evl_k 7 rfl; (exact Evl_index_sq _ _ _ _ _ _ _ _ _ _ rfl rfl rfl HEl.out rfl (by first | omega | fail) (by simp; first | omega | fail))))); (apply awpA_cong; (case hT => ((try simp (disch := assumption) only [wtn, ta_drop, Tok.cells, List.append_eq, List.foldl_cons, List.foldl_nil, List.map_cons, List.map_nil, Nat.reduceAdd, Nat.reduceMul, Nat.reduceSub, ↓reduceIte, Nat.reduceEqDiff]); rfl)); (case hH => rfl))) | (((refine Stp_k 16 rfl ?_; ((refine Stp_store _ _ _ _ _ _ _ rfl rfl FBox.out HSize.out (by first | rfl | fail) (by first | exact Nat.le_of_ble_eq_true rfl | fail) ?_)))); apply awpA_cong; (case hT => ((try simp (disch := omega) only [wtn, ta_drop, Tok.cells, List.append_eq, List.foldl_cons, List.foldl_nil, List.map_cons, List.map_nil, Nat.reduceAdd, Nat.reduceMul, Nat.reduceSub, ↓reduceIte, Nat.reduceEqDiff]); rfl)); (case hH => ((try simp (disch := omega) only [wtn, ta_drop, Tok.cells, List.append_eq, List.foldl_cons, List.foldl_nil, List.map_cons, List.map_nil, Nat.reduceAdd, Nat.reduceMul, Nat.reduceSub, ↓reduceIte, Nat.reduceEqDiff]); rfl))) | fail)))
    refine awpA_done (by decide +kernel) ?_
    (repeat' (first | with_reducible (first | refine awp_ret ?_ | refine thenA_normal ?_) | fail))
    refine endA_ret _ _ (Res1 rfl (RV.cell 0 rfl rfl HAgg.out (by simp) (by simp)) (Weak.mk' [_] [] (List.Perm.refl _) VwHs.nil (VwL.refl _ _))) ?_
    exact ⟨rfl, rfl⟩
set_option maxRecDepth 100000 in
set_option maxHeartbeats 8000000 in
theorem failed_s (ts : List Tok) (k : Nat) (e l c : Int) (sv : AV) : Spec Tryz.prog 38 [] [.at_ (pc ts k e l c sv)] (fun r H' => r = .x (.bool (!(e == 0))) ∧ H' = []) := by
  unfold pc
  refine Spec_of Tryz.func38 rfl ?_
  simp only [Tryz.ntmps38, List.length_cons, List.length_nil, List.replicate_succ, List.replicate_zero, List.cons_append, List.nil_append, Nat.reduceAdd, Nat.reduceSub]
  (repeat' (first | with_reducible (first | refine awp_seq ?_ | refine awp_region ?_ | refine awp_ret ?_ | refine awpL_nil ?_ | refine thenA_normal ?_) | ((apply awpL_evl2 rfl); (case h => ((first | (apply Evl_k 0 rfl; (first | exact Evl_mv _ rfl | exact Evl_as _ rfl)) | (apply Evl_k 4 rfl; (exact Evl_nil _ rfl (by first | exact .inr ⟨_, rfl⟩ | fail))) | (apply Evl_k 5 rfl; (exact Evl_field_at _ _ _ _ _ rfl rfl HFld.out)) | (apply Evl_k 6 rfl; (exact Evl_load_at _ _ _ _ _ rfl rfl HAgg.out (by first | exact Nat.le_of_ble_eq_true rfl | fail) (by first | exact Nat.le_of_ble_eq_true rfl | fail))) | (apply Evl_x; (case hs => (intro _ _ h; cases h)); (case hx => rfl); (case hrun => (intro w; simp [wtb, AV.val, go_sem]; skip; rfl)))))); (case hT => ((try simp only [wtn]); rfl))) | fail))
  refine endA_ret _ _ (Res1 rfl (RV.tmp _) (Weak.mk' [] _ (List.Perm.refl _) (VwHs.refl _ _) (VwL.refl _ _))) ?_
  exact ⟨rfl, rfl⟩
def isP (ts : List Tok) (k : Nat) (e : Int) (kind : Int) (s : List UInt8) : Bool := e == 0 && (match ts[k]? with | some t => t.kind == kind && t.text == s | none => false)
set_option maxRecDepth 100000 in
set_option maxHeartbeats 8000000 in
theorem is_s (ts : List Tok) (k : Nat) (e l c : Int) (sv : AV) (kind : Int) (s : List UInt8) (hk : k < ts.length) (hl : ts.length ≤ 1000000) : Spec Tryz.prog 60 [] [.at_ (pc ts k e l c sv), .x (.int .i64 kind), .x (.string (bs s))] (fun r H' => r = .x (.bool (isP ts k e kind s)) ∧ H' = []) := by
  have hn := now_s ts k e l c sv hk hl
  have hf := failed_s ts k e l c sv
  unfold Tok.av at hn
  refine Spec_of Tryz.func60 rfl ?_
  simp only [Tryz.ntmps60, List.length_cons, List.length_nil, List.replicate_succ, List.replicate_zero, List.cons_append, List.nil_append, Nat.reduceAdd, Nat.reduceSub]
  (repeat' (first | with_reducible (first | refine awp_seq ?_ | refine awp_region ?_ | refine awp_ret ?_ | refine awpL_nil ?_ | refine thenA_normal ?_) | ((first | apply awpL_evl2 rfl | apply awpL_g2 _ _ rfl rfl rfl); (case h => ((try (intro (hp : (_ : Bool) = true); ((try simp only [Bool.and_eq_true] at hp); (try simp only [hp, wte]); (try simp only [whn] at hp)))); (first | (apply Evl_k 0 rfl; (first | exact Evl_mv _ rfl | exact Evl_as _ rfl)) | (apply Evl_k 1 rfl; (exact Evl_and _ _ _ _ _ rfl rfl rfl rfl)) | (apply Evl_k 11 rfl; (first | exact Evl_call 36 Tryz.f36 _ _ rfl rfl Tryz.func36 (by decide) rfl (VwL.refl _ _) (hn) | exact Evl_call 38 Tryz.f38 _ _ rfl rfl Tryz.func38 (by decide) rfl (VwL.refl _ _) (hf))) | (apply Evl_x; (case hs => (intro _ _ h; cases h)); (case hx => rfl); (case hrun => (intro w; simp [wtb, AV.val, go_sem]; skip; rfl)))))); (case hT => ((try simp only [wtn]); rfl))) | fail))
  refine endA_ret _ _ (Res1 rfl (RV.tmp _) (Weak.mk' [] _ (List.Perm.refl _) (VwHs.refl _ _) (VwL.refl _ _))) ?_
  refine ⟨?_, rfl⟩
  simp [ev, isP, hk, Bool.and_assoc]
set_option maxRecDepth 100000 in
set_option maxHeartbeats 8000000 in
theorem rhas_s (l : List (List UInt8)) (s : List UInt8) (hl : l.length ≤ 1000000) : Spec Tryz.prog 65 [] [.sq l.length (sa l), .x (.string (bs s))] (fun r H' => r = .x (.bool (decide (s ∈ l))) ∧ H' = []) := by
  refine Spec_of Tryz.func65 rfl ?_
  simp only [Tryz.ntmps65, List.length_cons, List.length_nil, List.replicate_succ, List.replicate_zero, List.cons_append, List.nil_append, Nat.reduceAdd, Nat.reduceSub]
  (repeat' (first | with_reducible (first | refine awp_seq ?_ | refine awp_region ?_ | refine awp_block ?_ | refine awpL_nil ?_ | refine thenA_normal ?_) | ((apply awpL_evl2 rfl); (case h => (((apply Evl_k 0 rfl; (exact Evl_as _ rfl))))); (case hT => ((try simp only [wtn]); rfl))) | fail))
  refine awp_loopS (S := Nat) (fun k => frm 18 [(0, .sq l.length (sa l)), (1, .x (.string (bs s))), (5, .x (.int .i64 k))]) (fun _ => []) (fun k => k ≤ l.length ∧ s ∉ l.take k) (fun k => l.length - k) 0 (Weak.mk' [] _ (List.Perm.refl _) (VwHs.refl _ _) (by (repeat' (first | exact VwL.nil | (refine VwL.cons ?_ ?_) | exact Vw.refl _ | exact Vw.top _ | fail)))) ⟨Nat.zero_le _, by simp⟩ fun k hk => ?_
  simp only [frm, List.replicate_succ, List.replicate_zero, List.foldl_cons, List.foldl_nil, List.set_cons_zero, List.set_cons_succ]
  obtain ⟨hk, hn⟩ := hk
  have hn' := Lib.hid hn
  clear hn
  (repeat' (first | with_reducible (first | refine awp_seq ?_ | refine awp_region ?_ | refine awp_block ?_ | refine awp_ret ?_ | refine awp_skip ?_ | refine awp_exit ?_ | refine awpL_nil ?_ | refine thenA_normal ?_ | refine thenA_exit ?_ | refine thenA_ret ?_ | refine inBlockA_eq ?_ | refine inBlockA_normal ?_ | refine inBlockA_ret ?_) | (refine awp_cond _ rfl (fun h => ?_) (fun h => ?_) <;> ((try (simp only [whn] at h)); skip)) | ((apply awpL_evl2 rfl); (case h => ((first | (apply Evl_k 0 rfl; (first | exact Evl_mv _ rfl | exact Evl_as _ rfl)) | (apply Evl_k 3 rfl; (exact Evl_len _ _ _ _ _ _ HEl.out rfl rfl)) | (apply Evl_k 6 rfl; (exact Evl_load_at _ _ _ _ _ rfl rfl HAgg.out (by first | exact Nat.le_of_ble_eq_true rfl | fail) (by first | exact Nat.le_of_ble_eq_true rfl | fail))) | (apply Evl_k 7 rfl; (exact Evl_index_sq _ _ _ _ _ _ _ _ _ _ rfl rfl rfl HEl.out rfl (by first | omega | fail) (by simp; first | omega | fail))) | (apply Evl_x; (case hs => (intro _ _ h; cases h)); (case hx => rfl); (case hrun => (intro w; simp [wtb, AV.val, go_sem]; (try go_bits); rfl)))))); (case hT => ((try simp (disch := assumption) only [wtn, sa_drop, List.append_eq, List.foldl_cons, List.foldl_nil, List.map_cons, List.map_nil, Nat.reduceAdd, Nat.reduceMul, Nat.reduceSub, ↓reduceIte, Nat.reduceEqDiff]); rfl))) | fail))
  · refine endA_ret _ _ (Res1 rfl (RV.tmp _) (Weak.mk' [] _ (List.Perm.refl _) (VwHs.refl _ _) (VwL.refl _ _))) ?_
    exact ⟨by simp [ev, ← h], rfl⟩
  · exact ⟨k + 1, by omega, ⟨by omega, by rw [take_snoc' l k (by assumption)]; simp only [List.mem_append, List.mem_singleton, not_or]; exact ⟨hn'.out, fun e => h e.symm⟩⟩, (Weak.mk' [] _ (List.Perm.refl _) (VwHs.refl _ _) (by (repeat' (first | exact VwL.nil | (refine VwL.cons ?_ ?_) | exact Vw.refl _ | exact Vw.top _ | fail))))⟩
  · refine endA_ret _ _ (Res1 rfl (RV.tmp _) (Weak.mk' [] _ (List.Perm.refl _) (VwHs.refl _ _) (VwL.refl _ _))) ?_
    have hn := hn'.out
    rw [List.take_of_length_le (by omega)] at hn
    exact ⟨by simp [ev, hn], rfl⟩
end Go.Proofs.YtkhhlmonhapmaaaGreatDoor
namespace Go.Proofs.YtkhhlmonhapmaaaGreatDoor
open Go.RowKit
def VT (ts : List Tok) : Prop := ∀ k, (h : k < ts.length) → ts[k].kind ≠ 6 → k + 1 < ts.length
structure St (ts : List Tok) (k : Nat) (e : Int) (k' : Nat) (e' : Int) : Prop where
  le : k ≤ k'
  lt : k' < ts.length
  bad : e' = 0 → e = 0
end Go.Proofs.YtkhhlmonhapmaaaGreatDoor
namespace Go.Proofs.YtkhhlmonhapmaaaGreatDoor
open Go.RowKit
end Go.Proofs.YtkhhlmonhapmaaaGreatDoor
namespace Go.Proofs.YtkhhlmonhapmaaaGreatDoor
open Go.RowKit
def tkA (ts : List Tok) (k : Nat) : Tok := ts.getD k ⟨6, [], 0, 0⟩
def flt (e : Int) (t : Tok) : Flt := ⟨e, t.line, t.col⟩
def gTake (ts : List Tok) (k : Nat) (kind : Int) (most : Nat) : Except Flt Tok :=
  if (tkA ts k).kind ≠ kind then .error (flt 60 (tkA ts k)) else if most < (tkA ts k).text.length then .error (flt 1 (tkA ts k)) else .ok (tkA ts k)
def gIs (ts : List Tok) (k : Nat) (s : List UInt8) : Bool := (tkA ts k).kind == 5 && (tkA ts k).text == s
def gSign (ts : List Tok) (k : Nat) (s : List UInt8) : Except Flt Unit := if gIs ts k s then .ok () else .error (flt 60 (tkA ts k))
def numv (l : List UInt8) : Int := l.foldl (fun n c => 10 * n + (c.toNat - 48)) 0
def gNum (ts : List Tok) (k : Nat) : Except Flt Int := (gTake ts k 2 8192).map fun t => numv t.text
def wRun : List UInt8 := [114, 117, 110]
def wEnv : List UInt8 := [101, 110, 118]
def wNeeds : List UInt8 := [110, 101, 101, 100, 115]
def wReady : List UInt8 := [114, 101, 97, 100, 121]
def wRestart : List UInt8 := [114, 101, 115, 116, 97, 114, 116]
def wBackoff : List UInt8 := [98, 97, 99, 107, 111, 102, 102]
def wBurst : List UInt8 := [98, 117, 114, 115, 116]
def wStop : List UInt8 := [115, 116, 111, 112]
def wJob : List UInt8 := [106, 111, 98]
def items : List (List UInt8) := [wRun, wEnv, wNeeds, wReady, wRestart, wBackoff, wBurst, wStop]
def sigv (s : List UInt8) : Int :=
  if s = [72, 85, 80] then 1 else if s = [73, 78, 84] then 2 else if s = [81, 85, 73, 84] then 3 else if s = [85, 83, 82, 49] then 10 else if s = [85, 83, 82, 50] then 12 else if s = [84, 69, 82, 77] then 15 else 0
def gName (ts : List Tok) (k : Nat) (full : Bool) : Except Flt Tok := do
  let t ← gTake ts k 1 32
  if full then .error (flt 1 t) else .ok t
def gVar (ts : List Tok) (k : Nat) (env : List (List UInt8 × List UInt8)) : Except Flt (List UInt8 × List UInt8) := do
  let t ← gName ts k (decide (16 ≤ env.length))
  if env.any (·.1 == t.text) then .error (flt 5 t) else
  gSign ts (k + 1) [61]
  let v ← gTake ts (k + 2) 3 512
  .ok (t.text, v.text)
def gNeed (ts : List Tok) (k : Nat) (out : List (List UInt8)) : Except Flt (List UInt8) := do
  let t ← gName ts k (decide (16 ≤ out.length))
  if out.contains t.text then .error (flt 5 t) else .ok t.text
def gRung (ts : List Tok) (k : Nat) (out : List (Int × Int)) : Except Flt (Int × Int) := do
  let t ← gTake ts k 1 8192
  if 5 ≤ out.length then .error (flt 1 t) else
  if sigv t.text = 0 then .error (flt 4 t) else
  let n ← gNum ts (k + 1)
  .ok (sigv t.text, n)
def gList {α : Type} (el : Nat → List α → Except Flt α) (st : Nat) (ts : List Tok) (k : Nat) (out : List α) : Except Flt (List α × Nat) :=
  match el k out with
  | .error f => .error f
  | .ok x => if h : k + st < ts.length ∧ gIs ts (k + st) [44] = true then gList el st ts (k + st + 1) (out ++ [x]) else .ok (out ++ [x], k + st)
termination_by ts.length - k
decreasing_by omega
def gPol (ts : List Tok) (k : Nat) : Except Flt Int := do
  let t ← gTake ts k 1 8192
  if t.text = [97, 108, 119, 97, 121, 115] then .ok 3 else if t.text = [111, 110, 45, 102, 97, 105, 108, 117, 114, 101] then .ok 2 else if t.text = [110, 101, 118, 101, 114] then .ok 1 else .error (flt 60 t)
def gItem (ts : List Tok) (k : Nat) (w : List UInt8) (j : JF) : Except Flt (JF × Nat) :=
  if w = wRun then (gTake ts k 3 512).map fun t => ({ j with run := t.text }, k + 1)
  else if w = wEnv then (gVar ts k j.env).map fun v => ({ j with env := j.env ++ [v] }, k + 3)
  else if w = wNeeds then (gList (gNeed ts) 1 ts k []).map fun x => ({ j with needs := x.1 }, x.2)
  else if w = wReady then (gTake ts k 4 128).map fun t => ({ j with hasr := true, ready := t.text }, k + 1)
  else if w = wRestart then (gPol ts k).map fun n => ({ j with restart := n }, k + 1)
  else if w = wBackoff then do
    let a ← gNum ts k
    let b ← gNum ts (k + 1)
    let c ← gNum ts (k + 2)
    .ok ({ j with base := a, cap := b, stable := c }, k + 3)
  else if w = wBurst then do
    let n ← gNum ts k
    if n < 1 ∨ 16 < n then .error (flt 2 (tkA ts k)) else
    let m ← gNum ts (k + 1)
    .ok ({ j with burst := n, window := m }, k + 2)
  else (gList (gRung ts) 2 ts k []).map fun x => ({ j with ladder := x.1 }, x.2)
def gItems (ts : List Tok) (name : Tok) (k : Nat) (seen : List (List UInt8)) (j : JF) : Except Flt (JF × Nat) :=
  if gIs ts k [125] then (if seen.contains wRun then .ok (j, k + 1) else .error (flt 6 name))
  else if (tkA ts k).kind ≠ 1 ∨ ¬ items.contains (tkA ts k).text then .error (flt 60 (tkA ts k))
  else if (tkA ts k).text ≠ wEnv ∧ seen.contains (tkA ts k).text then .error (flt 5 (tkA ts k))
  else match gItem ts (k + 1) (tkA ts k).text j with
    | .error f => .error f
    | .ok x => if h : k < x.2 ∧ k < ts.length then gItems ts name x.2 (if (tkA ts k).text = wEnv then seen else seen ++ [(tkA ts k).text]) x.1 else .error (flt 60 (tkA ts k))
termination_by ts.length - k
decreasing_by omega
def job0 (t : Tok) : JF := { name := t.text, run := [], env := [], needs := [], hasr := false, ready := [], restart := 2, base := 100, cap := 10000, stable := 10000, burst := 5, window := 60000, ladder := [(15, 5000)], line := t.line, col := t.col }
def gJob (ts : List Tok) (k : Nat) (full : Bool) : Except Flt (JF × Nat) := do
  let w ← gTake ts k 1 8192
  if w.text ≠ wJob then .error (flt 60 w) else
  let t ← gName ts (k + 1) full
  gSign ts (k + 2) [123]
  gItems ts t (k + 3) [] (job0 t)
def gJobs (ts : List Tok) (k : Nat) (out : List JF) : Except Flt (List JF) :=
  if (tkA ts k).kind = 6 then .ok out
  else match gJob ts k (decide (32 ≤ out.length)) with
    | .error f => .error f
    | .ok x => if h : k < x.2 ∧ k < ts.length then gJobs ts x.2 (out ++ [x.1]) else .ok out
termination_by ts.length - k
decreasing_by omega
def gParse (s : List UInt8) : Except Flt (List JF) := match lex s with
  | .error f => .error f
  | .ok ts => gJobs ts 0 []
end Go.Proofs.YtkhhlmonhapmaaaGreatDoor
namespace Go.Proofs.YtkhhlmonhapmaaaGreatDoor
open Go.RowKit
theorem tkA_get {ts : List Tok} {k : Nat} (h : k < ts.length) : tkA ts k = ts[k] := by simp [tkA, List.getD_eq_getElem?_getD, h]
structure PS where
  k : Nat
  e : Int
  l : Int
  c : Int
def PS.cells (s : PS) (ts : List Tok) (sv : AV) : List AV := pc ts s.k s.e s.l s.c sv
def PS.fail (s : PS) (e : Int) (t : Tok) : PS := if s.e = 0 then ⟨s.k, e, t.line, t.col⟩ else s
def PS.flt (s : PS) (f : Flt) : PS := if s.e = 0 then ⟨s.k, f.code, f.line, f.col⟩ else s
def PS.on (s : PS) (n : Nat) : PS := if s.e = 0 then ⟨s.k + n, 0, s.l, s.c⟩ else s
def PS.upon {α : Type} (s : PS) (x : Except Flt α) (n : Nat) : PS := match x with
  | .ok _ => s.on n
  | .error f => s.flt f
set_option maxRecDepth 100000 in
set_option maxHeartbeats 8000000 in
theorem fail_x (b : Nat) (ts : List Tok) (s : PS) (sv : AV) (hsv : sv.one = true) (e2 : Int) (t : Tok) : Spec Tryz.prog 61 [.box b (s.cells ts sv)] [.x (.pointer (some ⟨b, 0, none⟩)), .x (.int .i64 e2), t.av] (fun r H' => r = .x (.tuple #[]) ∧ H' = [.box b ((s.fail e2 t).cells ts sv)]) := by
  obtain ⟨k, e, l, c⟩ := s
  unfold Tok.av
  simp only [pc, PS.cells, PS.fail]
  refine Spec_of Tryz.func61 rfl ?_
  simp only [Tryz.ntmps61, List.length_cons, List.length_nil, List.replicate_succ, List.replicate_zero, List.cons_append, List.nil_append, Nat.reduceAdd, Nat.reduceSub]
  (repeat' (first | with_reducible (first | refine awp_seq ?_ | refine awp_region ?_ | refine awp_skip ?_ | refine awpL_nil ?_ | refine thenA_normal ?_) | (refine awp_cond _ rfl (fun h => ?_) (fun h => ?_) <;> ((try (simp only [whn] at h)); skip)) | ((apply awpL_evl2 rfl); (case h => ((first | (apply Evl_k 0 rfl; (exact Evl_mv _ rfl)) | (apply Evl_k 4 rfl; (exact Evl_nil _ rfl (by first | exact .inl ⟨_, rfl⟩ | fail))) | (apply Evl_k 5 rfl; (exact Evl_field_x _ _ _ _ _ _ rfl rfl HFld.out)) | (apply Evl_k 6 rfl; (exact Evl_load _ _ _ _ _ _ _ _ rfl rfl FBox.out HAgg.out (by first | exact Nat.le_of_ble_eq_true rfl | fail) (by first | exact Nat.le_of_ble_eq_true rfl | fail))) | (apply Evl_k 10 rfl; (exact Evl_build _ _ _ _ _ rfl HPl.out (by first | rfl | fail) rfl)) | (apply Evl_x; (case hs => (intro _ _ h; cases h)); (case hx => rfl); (case hrun => (intro w; simp [wtb, AV.val, go_sem]; skip; rfl)))))); (case hT => ((try simp only [wtn, ↓reduceIte]); rfl))) | (refine awpL_cons rfl ?_; ((first | (refine Stp_k 15 rfl ?_; ((refine Stp_box _ _ rfl (by first | rfl | fail) (fun b => ?_)))) | (refine Stp_k 16 rfl ?_; ((refine Stp_store _ _ _ _ _ _ _ rfl rfl FBox.out HSize.out (by first | rfl | fail) (by first | exact Nat.le_of_ble_eq_true rfl | fail) ?_)))); apply awpL_cong; (case hT => ((try simp only [wtn]); rfl)); (case hH => ((try simp only [wtn, Nat.reduceAdd]); rfl)))) | fail))
  · refine endA_normal _ _ (Res0 rfl (Weak.mk' [_] [_] (List.Perm.refl _) (VwHs.refl _ _) VwL.nil)) ?_
    exact ⟨rfl, by rw [if_pos h]⟩
  · refine endA_normal _ _ (Res0 rfl (Weak.mk' [_] [_] (List.Perm.refl _) (VwHs.refl _ _) VwL.nil)) ?_
    exact ⟨rfl, by rw [if_neg h]⟩
set_option maxRecDepth 100000 in
set_option maxHeartbeats 8000000 in
theorem take_x (b : Nat) (ts : List Tok) (s : PS) (sv : AV) (hsv : sv.one = true) (kind : Int) (most : Nat) (hk : s.k < ts.length) (hl : ts.length ≤ 1000000) :
    Spec Tryz.prog 62 [.box b (s.cells ts sv)] [.x (.pointer (some ⟨b, 0, none⟩)), .x (.int .i64 kind), .x (.int .i64 most)] (fun r H' => r = (tkA ts s.k).av ∧ H' = [.box b ((s.upon (gTake ts s.k kind most) 1).cells ts sv)]) := by
  obtain ⟨k, e, l, c⟩ := s
  simp only at hk
  have hn := now_s ts k e l c sv hk hl
  have hf := failed_s ts k e l c sv
  have hF1 := fail_x b ts ⟨k, e, l, c⟩ sv hsv 60 ts[k]
  have hF2 := fail_x b ts ⟨k, e, l, c⟩ sv hsv 1 ts[k]
  simp only [tkA_get hk]
  unfold Tok.av at hn hF1 hF2 ⊢
  simp only [pc, PS.cells] at hF1 hF2 ⊢
  have hg : gTake ts k kind most = if ts[k].kind ≠ kind then .error (flt 60 ts[k]) else if most < ts[k].text.length then .error (flt 1 ts[k]) else .ok ts[k] := by simp only [gTake, tkA_get hk]
  have hg' := Lib.hid hg
  clear hg
  refine Spec_of Tryz.func62 rfl ?_
  simp only [Tryz.ntmps62, List.length_cons, List.length_nil, List.replicate_succ, List.replicate_zero, List.cons_append, List.nil_append, Nat.reduceAdd, Nat.reduceSub]
  (repeat' (first | with_reducible (first | refine awp_seq ?_ | refine awp_region ?_ | refine awp_ret ?_ | refine awp_skip ?_ | refine awpL_nil ?_ | refine thenA_normal ?_ | refine thenA_ret ?_) | (refine awp_cond _ rfl (fun h => ?_) (fun h => ?_) <;> ((try (simp only [whn] at h)); skip)) | ((apply awpL_evl2 rfl); (case h => ((first | (apply Evl_k 0 rfl; (exact Evl_mv _ rfl)) | (apply Evl_k 4 rfl; (exact Evl_nil _ rfl (by first | exact .inl ⟨_, rfl⟩ | fail))) | (apply Evl_k 5 rfl; (exact Evl_field_x _ _ _ _ _ _ rfl rfl HFld.out)) | (apply Evl_k 6 rfl; (exact Evl_load _ _ _ _ _ _ _ _ rfl rfl FBox.out HAgg.out (by first | exact Nat.le_of_ble_eq_true rfl | fail) (by first | exact Nat.le_of_ble_eq_true rfl | fail))) | (apply Evl_k 11 rfl; (first | exact Evl_callL 36 Tryz.f36 _ _ rfl rfl Tryz.func36 (by decide) rfl (by (repeat' (first | exact VwL.nil | (refine VwL.cons ?_ ?_) | exact Vw.box (List.Mem.tail _ (List.Mem.head _)) (VwL.refl _ _) | fail)); done) (hn) | exact Evl_callL 38 Tryz.f38 _ _ rfl rfl Tryz.func38 (by decide) rfl (by (repeat' (first | exact VwL.nil | (refine VwL.cons ?_ ?_) | exact Vw.box (List.Mem.tail _ (List.Mem.tail _ (List.Mem.head _))) (VwL.refl _ _) | fail)); done) (hf))) | (apply Evl_x; (case hs => (intro _ _ h; cases h)); (case hx => rfl); (case hrun => (intro w; simp [wtb, AV.val, go_sem]; (try go_bits); rfl)))))); (case hT => ((try simp (disch := omega) only [wtn, pc, List.append_eq, List.foldl_cons, List.foldl_nil, List.map_cons, List.map_nil, Nat.reduceAdd, Nat.reduceMul, Nat.reduceSub, ↓reduceIte, Nat.reduceEqDiff]); rfl))) | (refine awpL_cons rfl ?_; ((first | (refine Stp_k 11 rfl ?_; (first | (refine Stp_call 61 Tryz.f61 [_] [_, _] _ _ rfl rfl Tryz.func61 (by decide) rfl (List.perm_middle (l₁ := [_, _]) (l₂ := [])) (VwL.refl _ _) hF1 ?_; rintro _ _ ⟨rfl, rfl⟩) | (refine Stp_call 61 Tryz.f61 [_] [_, _] _ _ rfl rfl Tryz.func61 (by decide) rfl (List.perm_middle (l₁ := [_, _]) (l₂ := [])) (VwL.refl _ _) hF2 ?_; rintro _ _ ⟨rfl, rfl⟩))) | (refine Stp_k 14 rfl ?_; ((refine Stp_alloc _ _ rfl HZero.out rfl (fun b => ?_)))) | (refine Stp_k 16 rfl ?_; ((refine Stp_store _ _ _ _ _ _ _ rfl rfl FBox.out HSize.out (by first | rfl | fail) (by first | exact Nat.le_of_ble_eq_true rfl | fail) ?_)))); apply awpL_cong; (case hT => ((try simp (disch := omega) only [wtn, pc, List.append_eq, List.foldl_cons, List.foldl_nil, List.map_cons, List.map_nil, Nat.reduceAdd, Nat.reduceMul, Nat.reduceSub, ↓reduceIte, Nat.reduceEqDiff]); rfl)); (case hH => ((try simp (disch := omega) only [wtn, pc, List.append_eq, List.foldl_cons, List.foldl_nil, List.map_cons, List.map_nil, Nat.reduceAdd, Nat.reduceMul, Nat.reduceSub, ↓reduceIte, Nat.reduceEqDiff]); rfl)))) | fail))
  all_goals first
    | refine endA_ret _ _ (Res1 rfl (RV.cell 1 rfl rfl HAgg.out (by simp) (by simp)) (Weak.mk' [_, _] [_] (List.Perm.refl _) (VwHs.refl _ _) (VwL.refl _ _))) ?_
    | refine endA_ret _ _ (Res1 rfl (RV.cell 2 rfl rfl HAgg.out (by simp) (by simp)) (Weak.mk' [_, _] [_] (List.perm_middle (l₁ := [_, _]) (l₂ := [])).symm (VwHs.refl _ _) (VwL.refl _ _))) ?_
  all_goals refine ⟨rfl, ?_⟩
  all_goals
    by_cases ha : ts[k].kind = kind
    · by_cases hb : most < ts[k].text.length
      · have e := (hg'.out).trans ((if_neg (by simpa using ha)).trans (if_pos hb))
        rw [e]; clear hg' e
        simp_all [PS.upon, PS.on, PS.flt, PS.fail, flt]; done
      · have e := (hg'.out).trans ((if_neg (by simpa using ha)).trans (if_neg hb))
        rw [e]; clear hg' e
        simp_all [PS.upon, PS.on, PS.flt, PS.fail, flt]; done
    · have e := (hg'.out).trans (if_pos ha)
      rw [e]; clear hg' e
      simp_all [PS.upon, PS.on, PS.flt, PS.fail, flt]; done
theorem isP_gIs {ts : List Tok} {k : Nat} (hk : k < ts.length) (e : Int) (s : List UInt8) : isP ts k e 5 s = (e == 0 && gIs ts k s) := by
  simp only [isP, gIs, tkA_get hk, List.getElem?_eq_getElem hk]
set_option maxRecDepth 100000 in
set_option maxHeartbeats 8000000 in
theorem sign_x (b : Nat) (ts : List Tok) (s : PS) (sv : AV) (hsv : sv.one = true) (t : List UInt8) (hk : s.k < ts.length) (hl : ts.length ≤ 1000000) :
    Spec Tryz.prog 63 [.box b (s.cells ts sv)] [.x (.pointer (some ⟨b, 0, none⟩)), .x (.string (bs t))] (fun r H' => r = .x (.tuple #[]) ∧ H' = [.box b ((s.upon (gSign ts s.k t) 1).cells ts sv)]) := by
  obtain ⟨k, e, l, c⟩ := s
  simp only at hk
  have hn := now_s ts k e l c sv hk hl
  have hf := failed_s ts k e l c sv
  have hi := is_s ts k e l c sv 5 t hk hl
  have hF := fail_x b ts ⟨k, e, l, c⟩ sv hsv 60 ts[k]
  rw [isP_gIs hk] at hi
  unfold Tok.av at hn hF
  simp only [pc, PS.cells] at hF ⊢
  have hg : gSign ts k t = if gIs ts k t then .ok () else .error (flt 60 ts[k]) := by simp only [gSign, tkA_get hk]
  have hg' := Lib.hid hg
  clear hg
  generalize gIs ts k t = gi at hi hg'
  refine Spec_of Tryz.func63 rfl ?_
  simp only [Tryz.ntmps63, List.length_cons, List.length_nil, List.replicate_succ, List.replicate_zero, List.cons_append, List.nil_append, Nat.reduceAdd, Nat.reduceSub]
  (repeat' (first | with_reducible (first | refine awp_seq ?_ | refine awp_region ?_ | refine awp_skip ?_ | refine awpL_nil ?_ | refine thenA_normal ?_) | (refine awp_cond _ rfl (fun h => ?_) (fun h => ?_) <;> ((try (simp only [whn] at h)); skip)) | ((first | apply awpL_evl2 rfl | apply awpL_g2 _ _ rfl rfl rfl); (case h => ((try (intro (hp : (_ : Bool) = true); ((try simp only [hp, wte]); (try simp only [whn] at hp)))); (first | (apply Evl_k 0 rfl; (exact Evl_mv _ rfl)) | (apply Evl_k 1 rfl; (exact Evl_and _ _ _ _ _ rfl rfl rfl rfl)) | (apply Evl_k 4 rfl; (exact Evl_nil _ rfl (by first | exact .inl ⟨_, rfl⟩ | fail))) | (apply Evl_k 5 rfl; (exact Evl_field_x _ _ _ _ _ _ rfl rfl HFld.out)) | (apply Evl_k 6 rfl; (exact Evl_load _ _ _ _ _ _ _ _ rfl rfl FBox.out HAgg.out (by first | exact Nat.le_of_ble_eq_true rfl | fail) (by first | exact Nat.le_of_ble_eq_true rfl | fail))) | (apply Evl_k 11 rfl; (first | exact Evl_callL 36 Tryz.f36 _ _ rfl rfl Tryz.func36 (by decide) rfl (by (repeat' (first | exact VwL.nil | (refine VwL.cons ?_ ?_) | exact Vw.box (List.Mem.head _) (VwL.refl _ _) | fail)); done) (hn) | exact Evl_callL 38 Tryz.f38 _ _ rfl rfl Tryz.func38 (by decide) rfl (by (repeat' (first | exact VwL.nil | (refine VwL.cons ?_ ?_) | exact Vw.box (List.Mem.head _) (VwL.refl _ _) | fail)); done) (failed_s ts _ _ _ _ sv) | exact Evl_callL 60 Tryz.f60 _ _ rfl rfl Tryz.func60 (by decide) rfl (by (repeat' (first | exact VwL.nil | (refine VwL.cons ?_ ?_) | exact Vw.refl _ | exact Vw.box (List.Mem.head _) (VwL.refl _ _) | fail)); done) (hi))) | (apply Evl_x; (case hs => (intro _ _ h; cases h)); (case hx => rfl); (case hrun => (intro w; simp [wtb, AV.val, go_sem]; (try go_bits); rfl)))))); (case hT => ((try simp (disch := omega) only [wtn, pc, List.append_eq, List.foldl_cons, List.foldl_nil, List.map_cons, List.map_nil, Nat.reduceAdd, Nat.reduceMul, Nat.reduceSub, ↓reduceIte, Nat.reduceEqDiff]); rfl))) | (refine awpL_cons rfl ?_; ((first | (refine Stp_k 11 rfl ?_; ((refine Stp_call 61 Tryz.f61 [_] [] _ _ rfl rfl Tryz.func61 (by decide) rfl (List.Perm.refl _) (VwL.refl _ _) hF ?_; rintro _ _ ⟨rfl, rfl⟩))) | (refine Stp_k 16 rfl ?_; ((refine Stp_store _ _ _ _ _ _ _ rfl rfl FBox.out HSize.out (by first | rfl | fail) (by first | exact Nat.le_of_ble_eq_true rfl | fail) ?_)))); apply awpL_cong; (case hT => ((try simp (disch := omega) only [wtn, pc, List.append_eq, List.foldl_cons, List.foldl_nil, List.map_cons, List.map_nil, Nat.reduceAdd, Nat.reduceMul, Nat.reduceSub, ↓reduceIte, Nat.reduceEqDiff]); rfl)); (case hH => ((try simp (disch := omega) only [wtn, pc, List.append_eq, List.foldl_cons, List.foldl_nil, List.map_cons, List.map_nil, Nat.reduceAdd, Nat.reduceMul, Nat.reduceSub, ↓reduceIte, Nat.reduceEqDiff]); rfl)))) | fail))
  all_goals
    refine endA_normal _ _ (Res0 rfl (Weak.mk' [] [_] (List.Perm.refl _) (VwHs.refl _ _) VwL.nil)) ?_
    refine ⟨rfl, ?_⟩
    rw [hg'.out]
    cases gi <;> simp_all [PS.upon, PS.on, PS.flt, PS.fail, flt]
theorem numv_snoc (l : List UInt8) (c : UInt8) : numv (l ++ [c]) = 10 * numv l + (c.toNat - 48) := by simp [numv]
def Digits (l : List UInt8) : Prop := ∀ c ∈ l, 48 ≤ c.toNat ∧ c.toNat ≤ 57
theorem numv_lt (l : List UInt8) (hd : Digits l) : ∀ n, n ≤ l.length → 0 ≤ numv (l.take n) ∧ numv (l.take n) < ((10 ^ n : Nat) : Int) := by
  intro n
  induction n with
  | zero => intro _; simp [numv]
  | succ n ih =>
    intro hn
    have h1 := ih (by omega)
    have h2 := hd l[n] (List.getElem_mem (by omega))
    rw [take_snoc' l n (by omega), numv_snoc, Nat.pow_succ]
    generalize 10 ^ n = p at h1 ⊢
    omega
def NumTok (ts : List Tok) : Prop := ∀ t ∈ ts, t.kind = 2 → t.text.length ≤ 18 ∧ Digits t.text
theorem gNum_eq {ts : List Tok} (hN : NumTok ts) {k : Nat} (hk : k < ts.length) : gTake ts k 2 8192 = gTake ts k 2 18 := by
  have h := hN ts[k] (List.getElem_mem hk)
  simp only [gTake, tkA_get hk]
  by_cases h2 : ts[k].kind = 2
  · have h3 := (h h2).1
    rw [if_neg (fun h => h h2), if_neg (by omega), if_neg (fun h => h h2), if_neg (by omega)]
  · rw [if_pos h2, if_pos h2]
set_option maxRecDepth 100000 in
set_option maxHeartbeats 8000000 in
theorem number_x (b : Nat) (ts : List Tok) (s : PS) (sv : AV) (hsv : sv.one = true) (hk : s.k < ts.length) (hl : ts.length ≤ 1000000) (hN : NumTok ts) :
    Spec Tryz.prog 100 [.box b (s.cells ts sv)] [.x (.pointer (some ⟨b, 0, none⟩))] (fun r H' => r = .x (.int .u64 (if (s.upon (gTake ts s.k 2 18) 1).e = 0 then numv (tkA ts s.k).text else 0)) ∧ H' = [.box b ((s.upon (gTake ts s.k 2 18) 1).cells ts sv)]) := by
  have hT := take_x b ts s sv hsv 2 18 hk hl
  obtain ⟨k, e, l, c⟩ := s
  simp only at hk
  simp only [tkA_get hk] at hT ⊢
  have hTk : (({ k := k, e := e, l := l, c := c } : PS).upon (gTake ts k 2 18) 1).e = 0 → ts[k].text.length ≤ 18 ∧ Digits ts[k].text := by
    intro h
    have h2 := hN ts[k] (List.getElem_mem hk)
    simp only [gTake, tkA_get hk] at h
    by_cases h3 : ts[k].kind = 2
    · exact h2 h3
    · exfalso
      rw [if_pos h3] at h
      simp only [PS.upon, PS.flt, flt] at h
      split at h <;> simp_all
  generalize ({ k := k, e := e, l := l, c := c } : PS).upon (gTake ts k 2 18) 1 = s1 at hT hTk
  obtain ⟨k1, e1, l1, c1⟩ := s1
  simp only [PS.cells] at hT hTk ⊢
  have hTk' := Lib.hid hTk
  clear hTk
  clear hN
  refine Spec_of Tryz.func100 rfl ?_
  simp only [Tryz.ntmps100, List.length_cons, List.length_nil, List.replicate_succ, List.replicate_zero, List.cons_append, List.nil_append, Nat.reduceAdd, Nat.reduceSub]
  (repeat' (first | with_reducible (first | refine awp_seq ?_ | refine awp_region ?_ | refine awp_block ?_ | refine awp_ret ?_ | refine awp_skip ?_ | refine awpL_nil ?_ | refine thenA_normal ?_ | refine thenA_ret ?_) | (refine awp_cond _ rfl (fun h => ?_) (fun h => ?_) <;> ((try (simp only [whn] at h)); skip)) | ((apply awpL_evl2 rfl); (case h => ((first | (apply Evl_k 0 rfl; (first | exact Evl_mv _ rfl | exact Evl_as _ rfl)) | (apply Evl_k 11 rfl; (exact Evl_callL 38 Tryz.f38 _ _ rfl rfl Tryz.func38 (by decide) rfl (by (repeat' (first | exact VwL.nil | (refine VwL.cons ?_ ?_) | exact Vw.box (List.Mem.tail _ (List.Mem.head _)) (VwL.refl _ _) | fail)); done) (failed_s ts _ _ _ _ sv)))))); (case hT => ((try simp (disch := omega) only [wtn, pc, Tok.av, List.append_eq, List.foldl_cons, List.foldl_nil, List.map_cons, List.map_nil, Nat.reduceAdd, Nat.reduceMul, Nat.reduceSub, ↓reduceIte, Nat.reduceEqDiff]); rfl))) | (refine awpL_cons rfl ?_; ((first | (refine Stp_k 11 rfl ?_; ((refine Stp_call 62 Tryz.f62 [_] _ _ _ rfl rfl Tryz.func62 (by decide) rfl (List.Perm.refl _) (VwL.refl _ _) (hT) ?_; rintro _ _ ⟨rfl, rfl⟩))) | (refine Stp_k 14 rfl ?_; ((refine Stp_alloc _ _ rfl HZero.out rfl (fun b => ?_)))) | (refine Stp_k 16 rfl ?_; ((refine Stp_store _ _ _ _ _ _ _ rfl rfl FBox.out HSize.out (by first | rfl | fail) (by first | exact Nat.le_of_ble_eq_true rfl | fail) ?_)))); apply awpL_cong; (case hT => ((try simp (disch := omega) only [wtn, pc, Tok.av, List.append_eq, List.foldl_cons, List.foldl_nil, List.map_cons, List.map_nil, Nat.reduceAdd, Nat.reduceMul, Nat.reduceSub, ↓reduceIte, Nat.reduceEqDiff]); rfl)); (case hH => ((try simp (disch := omega) only [wtn, pc, Tok.av, List.append_eq, List.foldl_cons, List.foldl_nil, List.map_cons, List.map_nil, Nat.reduceAdd, Nat.reduceMul, Nat.reduceSub, ↓reduceIte, Nat.reduceEqDiff]); rfl)))) | fail))
  · refine endA_ret _ _ (Res1 rfl (RV.tmp _) (Weak.mk' [_] [_] (List.Perm.refl _) (VwHs.refl _ _) (VwL.refl _ _))) ?_
    exact ⟨by rw [if_neg h]; rfl, rfl⟩
  obtain ⟨hl18, hdig⟩ := hTk'.out h
  have hdig' := Lib.hid hdig
  clear hdig hTk'
  refine awp_loopS (S := Nat) (fun i => frm 27 [(3, .x (.pointer (some ⟨b, 0, none⟩))), (4, .x (.int .u64 (numv (ts[k].text.take i)))), (5, .x (.int .i64 i))]) (fun _ => [.box b [.x (.int .i64 ts[k].kind), .x (.string (bs ts[k].text)), .x (.int .i64 (ts[k].line : Nat)), .x (.int .i64 (ts[k].col : Nat))], .box _ (pc ts k1 e1 l1 c1 sv)]) (fun i => i ≤ ts[k].text.length) (fun i => ts[k].text.length - i) 0 (Weak.mk' [] _ (List.Perm.refl _) (VwHs.refl _ _) (by (repeat' (first | exact VwL.nil | (refine VwL.cons ?_ ?_) | exact Vw.refl _ | exact Vw.top _ | fail)))) (Nat.zero_le _) fun i hs => ?_
  have hv1 := numv_lt ts[k].text hdig'.out i hs
  have hpw := Nat.pow_le_pow_right (n := 10) (by decide) (show i ≤ 18 by omega)
  generalize 10 ^ i = p at hv1 hpw
  have hv2 : numv (ts[k].text.take i) < 1000000000000000000 := by omega
  have hv3 := hv1.1
  clear hv1 hpw
  generalize hnv : numv (ts[k].text.take i) = nv at hv2 hv3 ⊢
  have hnv' := Lib.hid hnv
  clear hnv
  have hT' := Lib.hid hT
  clear hT
  simp only [frm, List.replicate_succ, List.replicate_zero, List.foldl_cons, List.foldl_nil, List.set_cons_zero, List.set_cons_succ]
  (repeat' (first | with_reducible (first | refine awp_seq ?_ | refine awp_region ?_ | refine awp_block ?_ | refine awp_ret ?_ | refine awp_skip ?_ | refine awp_exit ?_ | refine awpL_nil ?_ | refine thenA_normal ?_ | refine thenA_exit ?_ | refine inBlockA_eq ?_ | refine inBlockA_normal ?_) | (refine awp_cond _ rfl (fun h => ?_) (fun h => ?_) <;> ((try (simp only [whn] at h)); skip)) | ((apply awpL_evl2 rfl); (case h => ((first | (apply Evl_k 0 rfl; (first | exact Evl_mv _ rfl | exact Evl_as _ rfl)) | (apply Evl_k 5 rfl; (exact Evl_field_x _ _ _ _ _ _ rfl rfl HFld.out)) | (apply Evl_k 6 rfl; (exact Evl_load _ _ _ _ _ _ _ _ rfl rfl FBox.out HAgg.out (by first | exact Nat.le_of_ble_eq_true rfl | fail) (by first | exact Nat.le_of_ble_eq_true rfl | fail))) | (apply Evl_k 8 rfl; (exact Evl_index_str _ _ _ _ _ _ _ rfl rfl rfl (by kernel_rfl) rfl (by omega))) | (apply Evl_x; (case hs => (intro _ _ h; cases h)); (case hx => rfl); (case hrun => (intro w; simp [wtb, AV.val, go_sem]; (try go_bits); rfl)))))); (case hT => ((try simp only [wtn]); rfl))) | fail))
  · have hd := hdig'.out ts[k].text[i] (List.getElem_mem h)
    have e : numv (ts[k].text.take (i + 1)) = 10 * nv + (((ts[k].text[i]?.getD 0).toNat : Int) - 48) % 256 := by
      rw [take_snoc' _ _ h, numv_snoc, hnv'.out, List.getElem?_eq_getElem h]
      simp only [Option.getD_some]
      omega
    refine ⟨i + 1, by omega, by omega, ?_⟩
    rw [e]
    exact (Weak.mk' [] _ (List.Perm.refl _) (VwHs.refl _ _) (by (repeat' (first | exact VwL.nil | (refine VwL.cons ?_ ?_) | exact Vw.refl _ | exact Vw.top _ | fail))))
  · refine endA_ret _ _ (Res1 rfl (RV.tmp _) (Weak.mk' [_] [_] (List.Perm.refl _) (VwHs.refl _ _) (VwL.refl _ _))) ?_
    have e := hnv'.out
    rw [List.take_of_length_le (by omega)] at e
    exact ⟨by rw [if_pos (by assumption), e]; rfl, rfl⟩
end Go.Proofs.YtkhhlmonhapmaaaGreatDoor
