import Derived.Test.YtkhhlmonhapmaaaGreatDoorW43
import Derived.Test.YtkhhlmonhapmaaaGreatDoorW22
import Derived.Test.YtkhhlmonhapmaaaGreatDoorW20
import Derived.Test.YtkhhlmonhapmaaaGreatDoorW8
import Derived.Test.YtkhhlmonhapmaaaGreatDoorW27
/- The grammar's laws: the parsers' results, same, sane; GrammarSignals. -/
set_option linter.unusedSimpArgs false
set_option linter.unusedVariables false
namespace Go.Proofs.YtkhhlmonhapmaaaGreatDoor
open Go.RowKit
def jsOf : Except Flt (List JF) → List JF | .ok l => l | .error _ => []
def jfl : Except Flt (List JF) → Flt | .ok _ => ⟨0, 0, 0⟩ | .error f => f
theorem jres_t (x : Except Flt (List JF)) : jres x = .tup [.sq (jsOf x).length (jfa (jsOf x)), .x (.agg #[.int .i64 (jfl x).code, .int .i64 ((jfl x).line : Nat), .int .i64 ((jfl x).col : Nat)])] := by cases x <;> rfl
theorem gparse_t (s : List UInt8) (hl : s.length ≤ 1000000) : Spec Tryz.prog 14 [] [.x (.string (bs s))] (fun r H' => r = .tup [.sq (jsOf (gParse s)).length (jfa (jsOf (gParse s))), .x (.agg #[.int .i64 (jfl (gParse s)).code, .int .i64 ((jfl (gParse s)).line : Nat), .int .i64 ((jfl (gParse s)).col : Nat)])] ∧ H' = []) :=
  (gparse_s s hl).mono fun r H' ⟨h1, h2⟩ => ⟨h1.trans (jres_t _), h2⟩
theorem rparse_t (s : List UInt8) (hl : s.length ≤ 1000000) : Spec Tryz.prog 15 [] [.x (.string (bs s))] (fun r H' => r = .tup [.sq (jsOf (gParse s)).length (jfa (jsOf (gParse s))), .x (.agg #[.int .i64 (jfl (gParse s)).code, .int .i64 ((jfl (gParse s)).line : Nat), .int .i64 ((jfl (gParse s)).col : Nat)])] ∧ H' = []) :=
  (parse_g s hl).mono fun r H' ⟨h1, h2, _⟩ => ⟨h1.trans (jres_t _), h2⟩
theorem list_len {α : Type} {el : Nat → List α → Except Flt α} {st : Nat} {ts : List Tok} (hst : 1 ≤ st) : ∀ (q k : Nat) (out : List α) (v : List α) (k' : Nat), ts.length - k ≤ q → out.length ≤ k → gList el st ts k out = .ok (v, k') → v.length ≤ k' ∧ k ≤ k'
  | q, k, out, v, k', hq, ho, h => by
    rw [gList] at h
    split at h
    · cases h
    · split at h
      · rename_i hc
        cases q with
        | zero => omega
        | succ q =>
          have := list_len hst q _ _ v k' (by omega) (by simp; omega) h
          omega
      · cases h; simp; omega
theorem item_len {ts : List Tok} {k : Nat} {w : List UInt8} {j j1 : JF} {k1 : Nat} (hj : JB j k) (h : gItem ts k w j = .ok (j1, k1)) : JB j1 k1 ∧ k ≤ k1 := by
  obtain ⟨j1', j2', j3'⟩ := hj
  unfold gItem at h
  split at h
  · cases hx : gTake ts k 3 512 <;> rw [hx] at h <;> cases h; exact ⟨⟨by simp; omega, by simp; omega, by simp; omega⟩, by omega⟩
  split at h
  · cases hx : gVar ts k j.env <;> rw [hx] at h <;> cases h; exact ⟨⟨by simp; omega, by simp; omega, by simp; omega⟩, by omega⟩
  split at h
  · cases hx : gList (gNeed ts) 1 ts k [] with
    | error f => rw [hx] at h; cases h
    | ok x =>
      obtain ⟨h1, h2⟩ := list_len (by decide) _ k [] x.1 x.2 (Nat.le_refl _) (by simp) hx
      rw [hx] at h; cases h; exact ⟨⟨by simp; omega, by simp; omega, by simp; omega⟩, by omega⟩
  split at h
  · cases hx : gTake ts k 4 128 <;> rw [hx] at h <;> cases h; exact ⟨⟨by simp; omega, by simp; omega, by simp; omega⟩, by omega⟩
  split at h
  · cases hx : gPol ts k <;> rw [hx] at h <;> cases h; exact ⟨⟨by simp; omega, by simp; omega, by simp; omega⟩, by omega⟩
  split at h
  · cases hx : gNum ts k with
    | error f => rw [hx] at h; cases h
    | ok a =>
      cases hy : gNum ts (k + 1) with
      | error f => rw [hx] at h; simp only [bind, Except.bind, hy] at h; cases h
      | ok b =>
        cases hz : gNum ts (k + 2) with
        | error f => rw [hx] at h; simp only [bind, Except.bind, hy, hz] at h; cases h
        | ok c => rw [hx] at h; simp only [bind, Except.bind, hy, hz] at h; cases h; exact ⟨⟨by simp; omega, by simp; omega, by simp; omega⟩, by omega⟩
  split at h
  · cases hx : gNum ts k with
    | error f => rw [hx] at h; cases h
    | ok a =>
      rw [hx] at h
      simp only [bind, Except.bind] at h
      split at h
      · cases h
      · cases hy : gNum ts (k + 1) with
        | error f => rw [hy] at h; cases h
        | ok b => rw [hy] at h; cases h; exact ⟨⟨by simp; omega, by simp; omega, by simp; omega⟩, by omega⟩
  · cases hx : gList (gRung ts) 2 ts k [] with
    | error f => rw [hx] at h; cases h
    | ok x =>
      obtain ⟨h1, h2⟩ := list_len (by decide) _ k [] x.1 x.2 (Nat.le_refl _) (by simp) hx
      rw [hx] at h; cases h; exact ⟨⟨by simp; omega, by simp; omega, by simp; omega⟩, by omega⟩
theorem items_len {ts : List Tok} {name : Tok} : ∀ (q k : Nat) (seen : List (List UInt8)) (j j1 : JF) (k1 : Nat), ts.length - k ≤ q → JB j k → gItems ts name k seen j = .ok (j1, k1) → JB j1 k1 ∧ k1 ≤ ts.length
  | q, k, seen, j, j1, k1, hq, hj, h => by
    rw [gItems] at h
    split at h
    · rename_i h5
      have hk : k < ts.length := tkA_lt (by simp only [gIs, Bool.and_eq_true, beq_iff_eq] at h5; rw [h5.1]; decide)
      split at h
      · cases h; exact ⟨hj.mono (by omega), hk⟩
      · cases h
    split at h
    · cases h
    split at h
    · cases h
    split at h
    · cases h
    · rename_i x hx
      split at h
      · rename_i hc
        cases q with
        | zero => omega
        | succ q =>
          obtain ⟨g1, g2⟩ := item_len (j1 := x.1) (k1 := x.2) (hj.mono (Nat.le_succ k)) hx
          exact items_len q x.2 _ x.1 j1 k1 (by omega) g1 h
      · cases h
theorem job_len {ts : List Tok} {k : Nat} {full : Bool} {j : JF} {k1 : Nat} (h : gJob ts k full = .ok (j, k1)) : JB j k1 ∧ k1 ≤ ts.length := by
  unfold gJob at h
  cases h1 : gTake ts k 1 8192 with
  | error f => rw [h1] at h; cases h
  | ok w =>
    rw [h1] at h
    simp only [bind, Except.bind] at h
    split at h
    · cases h
    · cases h2 : gName ts (k + 1) full with
      | error f => rw [h2] at h; cases h
      | ok t =>
        rw [h2] at h
        simp only at h
        cases h3 : gSign ts (k + 2) [123] with
        | error f => rw [h3] at h; cases h
        | ok u =>
          rw [h3] at h
          exact items_len _ (k + 3) [] (job0 t) j k1 (Nat.le_refl _) ⟨by simp [job0], by simp [job0], by simp [job0]⟩ h
theorem jobs_len {ts : List Tok} : ∀ (q k : Nat) (out r : List JF), ts.length - k ≤ q → out.length ≤ k → out.length ≤ ts.length → (∀ j ∈ out, JB j ts.length) → gJobs ts k out = .ok r → r.length ≤ ts.length ∧ ∀ j ∈ r, JB j ts.length
  | q, k, out, r, hq, ho, hl, hj, h => by
    rw [gJobs] at h
    split at h
    · cases h; exact ⟨hl, hj⟩
    split at h
    · cases h
    · rename_i x hx
      split at h
      · rename_i hc
        cases q with
        | zero => omega
        | succ q =>
          obtain ⟨g1, g2⟩ := job_len (j := x.1) (k1 := x.2) hx
          refine jobs_len q x.2 _ r (by omega) (by simp; omega) (by simp; omega) (fun j hm => ?_) h
          rcases List.mem_append.1 hm with hm | hm
          · exact hj j hm
          · rw [List.mem_singleton] at hm; subst hm; exact g1.mono g2
      · cases h; exact ⟨hl, hj⟩
theorem jbs_ok (s : List UInt8) : JBs (jsOf (gParse s)) := by
  unfold gParse
  cases hx : lex s with
  | error f => exact ⟨Nat.zero_le _, by simp [jsOf]⟩
  | ok ts =>
    have hn := ((lex_facts s).2 ts hx).2.1
    simp only
    cases hg : gJobs ts 0 [] with
    | error f => exact ⟨Nat.zero_le _, by simp [jsOf]⟩
    | ok r =>
      obtain ⟨h1, h2⟩ := jobs_len _ 0 [] r (Nat.le_refl _) (Nat.zero_le _) (Nat.zero_le _) (by simp) hg
      exact ⟨by simp only [jsOf]; omega, fun j hj => by obtain ⟨a, b, c⟩ := h2 j hj; omega⟩
set_option maxRecDepth 100000 in
set_option maxHeartbeats 8000000 in
theorem same06_s (l : List JF) (hl : JBs l) : Spec Tryz.prog 16 [] [.sq l.length (jfa l), .sq l.length (jfa l)] (fun r H' => r = .x (.bool true) ∧ H' = []) := by
  have hs := sameJs_s l l hl
  have hle := hl.1
  have e : sameJs l l = true := by
    unfold sameJs
    simp only [decide_true, Bool.true_and, List.all_eq_true]
    intro p hp
    have : p.1 = p.2 := by
      obtain ⟨i, hi, rfl⟩ := List.mem_iff_getElem.1 hp
      simp
    rw [this]; simp [sameJ]
  rw [e] at hs
  clear e hl
  refine Spec_of Tryz.func16 rfl ?_
  simp only [Tryz.ntmps16, List.length_cons, List.length_nil, List.replicate_succ, List.replicate_zero, List.cons_append, List.nil_append, Nat.reduceAdd, Nat.reduceSub]
  (repeat' (first | with_reducible (first | refine awp_seq ?_ | refine awp_region ?_ | refine awp_block ?_ | refine awp_skip ?_ | refine awpL_nil ?_ | refine thenA_normal ?_) | (refine awp_cond _ rfl (fun h => ?_) (fun h => ?_) <;> first | (exact absurd h (by decide)) | ((try (simp only [] at h)); skip)) | ((apply awpL_evl2 rfl); (case h => ((first | (apply Evl_k 0 rfl; (first | exact Evl_mv _ rfl | exact Evl_as _ rfl)) | (apply Evl_k 3 rfl; (exact Evl_len _ _ _ _ _ _ HEl.out rfl rfl)) | (apply Evl_k 11 rfl; (exact Evl_call 24 Tryz.f24 _ _ rfl rfl Tryz.func24 (by decide) rfl (VwL.refl _ _) (hs))) | (apply Evl_x; (case hs => (intro _ _ h; cases h)); (case hx => rfl); (case hrun => (intro w; simp [wtb, AV.val, go_sem]; skip; rfl)))))); (case hT => ((try simp only [wtn]); rfl))) | fail))
  refine awp_loopS (S := Nat) (fun q => frm 40 [(0, .sq l.length (jfa l)), (1, .sq l.length (jfa l)), (11, .x (.int .i64 l.length)), (12, .x (.int .i64 q))]) (fun q => []) (fun q => q ≤ l.length) (fun q => l.length - q) 0 ?a (Nat.zero_le _) fun q hq => ?_
  case a => exact (Weak.mk' [] _ (List.Perm.refl _) (VwHs.refl _ _) (by (repeat' (first | exact VwL.nil | (refine VwL.cons ?_ ?_) | exact Vw.refl _ | exact Vw.top _ | fail))))
  simp only [frm, List.replicate_succ, List.replicate_zero, List.foldl_cons, List.foldl_nil, List.set_cons_zero, List.set_cons_succ]
  by_cases hk : q < l.length
  · (repeat' (first | with_reducible (first | refine awp_seq ?_ | refine awp_region ?_ | refine awp_block ?_ | refine awp_skip ?_ | refine awpL_nil ?_ | refine dr_nil ?_ | refine thenA_normal ?_ | refine inBlockA_normal ?_) | (with_reducible refine awp_drawnQ mixed ?_ ?_; (decide +kernel)) | (refine awp_cond _ rfl (fun h => ?_) (fun h => ?_) <;> first | (exact absurd h (by decide)) | ((try (simp only [whn] at h)); first | (exfalso; omega; done) | skip)) | ((first | apply awpL_evl2 rfl | apply dr_evl2 rfl | apply dr_g2 _ _ rfl rfl rfl); (case h => ((try (intro (hp : (_ : Bool) = true); ((try simp only [Bool.not_eq_true'] at hp); skip; skip))); (first | (apply Evl_k 0 rfl; (first | exact Evl_mv _ rfl | exact Evl_as _ rfl)) | (apply Evl_k 1 rfl; (exact Evl_pickf _ _ _ rfl rfl)) | (apply Evl_k 5 rfl; (exact Evl_field_at _ _ _ _ _ rfl rfl HFld.out)) | (apply Evl_k 6 rfl; (exact Evl_load_at _ _ _ _ _ rfl rfl HAgg.out (by first | exact Nat.le_of_ble_eq_true rfl | fail) (by first | exact Nat.le_of_ble_eq_true rfl | fail))) | (apply Evl_k 7 rfl; (exact Evl_index_sq _ _ _ _ _ _ _ _ _ _ rfl rfl rfl HEl.out rfl (by first | omega | fail) (by simp; first | omega | fail))) | (apply Evl_x; (case hs => (intro _ _ h; cases h)); (case hx => rfl); (case hrun => (intro w; simp [wtb, AV.val, go_sem]; (try go_bits); rfl)))))); (case hT => ((try simp (disch := assumption) only [wtn, jfa_drop', List.append_eq, List.foldl_cons, List.foldl_nil, List.map_cons, List.map_nil, Nat.reduceAdd, Nat.reduceMul, Nat.reduceSub, ↓reduceIte, Nat.reduceEqDiff]); rfl))) | fail))
    exact ⟨q + 1, by omega, by omega, (Weak.mk' [] _ (List.Perm.refl _) (VwHs.refl _ _) (by (repeat' (first | exact VwL.nil | (refine VwL.cons ?_ ?_) | exact Vw.refl _ | exact Vw.top _ | fail))))⟩
  · (repeat' (first | with_reducible (first | refine awp_seq ?_ | refine awp_region ?_ | refine awp_ret ?_ | refine awp_exit ?_ | refine awpL_nil ?_ | refine thenA_normal ?_ | refine thenA_exit ?_ | refine inBlockA_eq ?_) | (refine awp_cond _ rfl (fun h => ?_) (fun h => ?_) <;> ((try (simp only [whn] at h)); first | (exfalso; omega; done) | skip)) | ((apply awpL_evl2 rfl); (case h => ((first | (apply Evl_k 0 rfl; (exact Evl_as _ rfl)) | (apply Evl_x; (case hs => (intro _ _ h; cases h)); (case hx => rfl); (case hrun => (intro w; simp [wtb, AV.val, go_sem]; skip; rfl)))))); (case hT => ((try simp only [wtn]); rfl))) | fail))
    refine endA_ret _ _ (Res1 rfl (RV.tmp _) (Weak.mk' [] _ (List.Perm.refl _) (VwHs.refl _ _) (VwL.refl _ _))) ?_
    exact ⟨rfl, rfl⟩
set_option maxRecDepth 100000 in
set_option maxHeartbeats 8000000 in
theorem sane06_s : Spec Tryz.prog 10 [] [] (fun r H' => r = .x (.bool true) ∧ H' = []) := by
  have h1 := gparse_s ex1 (by decide)
  have h2 := gparse_s ex2 (by decide)
  rw [gParse_ex1] at h1
  rw [gParse_ex2] at h2
  simp only [jres, Flt.av, jfa, JF.cells, List.flatMap_cons, List.flatMap_nil, List.cons_append, List.nil_append, job0, List.length_cons, List.length_nil] at h1 h2
  refine Spec_of Tryz.func10 rfl ?_
  simp only [Tryz.ntmps10, List.length_nil, List.replicate_succ, List.replicate_zero, List.nil_append, Nat.reduceSub]
  (repeat' (first | with_reducible (first | refine awp_seq ?_ | refine awp_region ?_ | refine awp_ret ?_ | refine awpL_nil ?_ | refine thenA_normal ?_) | ((first | apply awpL_evl2 rfl | apply awpL_g2 _ _ rfl rfl rfl); (case h => ((try (intro (hp : (_ : Bool) = true); ((try simp only [] at hp); skip; skip))); (first | (apply Evl_k 0 rfl; (first | exact Evl_mv _ rfl | exact Evl_as _ rfl)) | (apply Evl_k 1 rfl; (exact Evl_pickt _ _ _ rfl rfl)) | (apply Evl_k 2 rfl; (exact Evl_extract _ _ _ _ rfl rfl rfl)) | (apply Evl_k 3 rfl; (exact Evl_len _ _ _ _ _ _ HEl.out rfl rfl)) | (apply Evl_k 5 rfl; (exact Evl_field_at _ _ _ _ _ rfl rfl HFld.out)) | (apply Evl_k 6 rfl; (first | exact Evl_load_at _ _ _ _ _ rfl rfl HAgg.out (by first | exact Nat.le_of_ble_eq_true rfl | fail) (by first | exact Nat.le_of_ble_eq_true rfl | fail) | exact Evl_load _ _ _ _ _ _ _ _ rfl rfl FBox.out HAgg.out (by first | exact Nat.le_of_ble_eq_true rfl | fail) (by first | exact Nat.le_of_ble_eq_true rfl | fail))) | (apply Evl_k 7 rfl; (exact Evl_index_sq _ _ _ _ _ _ _ _ 0 _ rfl rfl rfl HEl.out rfl (by omega) (by simp; first | done | fail))) | (apply Evl_k 10 rfl; (exact Evl_build _ _ _ _ _ rfl HPl.out (by first | rfl | fail) rfl)) | (apply Evl_k 11 rfl; (first | exact Evl_call 14 Tryz.f14 _ _ rfl rfl Tryz.func14 (by decide) rfl (VwL.refl _ _) (h1) | exact Evl_call 14 Tryz.f14 _ _ rfl rfl Tryz.func14 (by decide) rfl (VwL.refl _ _) (h2))) | (apply Evl_x; (case hs => (intro _ _ h; cases h)); (case hx => rfl); (case hrun => (intro w; simp [wtb, AV.val, go_sem]; skip; rfl)))))); (case hT => ((try simp only [wtn, Nat.reduceMul, ↓reduceIte]); rfl))) | (refine awpL_cons rfl ?_; ((first | (refine Stp_k 14 rfl ?_; ((refine Stp_alloc _ _ rfl HZero.out rfl (fun b => ?_)))) | (refine Stp_k 16 rfl ?_; ((refine Stp_store _ _ _ _ _ _ _ rfl rfl FBox.out HSize.out (by first | rfl | fail) (by first | exact Nat.le_of_ble_eq_true rfl | fail) ?_)))); apply awpL_cong; (case hT => ((try simp only [wtn]); rfl)); (case hH => ((try simp only [wtn, Nat.reduceAdd]); rfl)))) | fail))
  refine endA_ret _ _ (Res1 rfl (RV.tmp _) (Weak.mk' [_, _] [] (List.Perm.refl _) (VwHs.refl _ _) (by first | exact VwL.refl _ _ | fail))) ?_
  exact ⟨rfl, rfl⟩
end Go.Proofs.YtkhhlmonhapmaaaGreatDoor
namespace Go.Proofs.YtkhhlmonhapmaaaGreatDoor
open Go.RowKit
set_option maxRecDepth 100000 in
set_option maxHeartbeats 8000000 in
theorem new_w (l : List Int) (H : List Hp) : Spec Tryz.prog 11 H [.sq l.length (ia l)] (fun r H' => ∃ b, r = .x (.pointer (some ⟨b, 0, none⟩)) ∧ H' = .box b [.sq l.length (ia l), .x (.int .i64 0)] :: H) := by
  refine Spec_of Tryz.func11 rfl ?_
  simp only [Tryz.ntmps11, List.length_cons, List.length_nil, List.replicate_succ, List.replicate_zero, List.cons_append, List.nil_append, Nat.reduceAdd, Nat.reduceSub]
  (repeat' (first | with_reducible (first | refine awp_seq ?_ | refine awp_region ?_ | refine awp_ret ?_ | refine awpL_nil ?_ | refine thenA_normal ?_) | ((apply awpL_evl2 rfl); (case h => ((first | (apply Evl_k 0 rfl; (first | exact Evl_mv _ rfl | exact Evl_as _ rfl)) | (apply Evl_k 10 rfl; (exact Evl_build _ _ _ _ _ rfl HPl.out (by first | rfl | fail) rfl))))); (case hT => ((try simp only [wtn, ↓reduceIte]); rfl))) | (refine awpL_cons rfl ?_; (((refine Stp_k 15 rfl ?_; ((refine Stp_box _ _ rfl (by first | rfl | fail) (fun b => ?_))))); apply awpL_cong; (case hT => ((try simp only [wtn]); rfl)); (case hH => ((try simp only [wtn]); rfl)))) | fail))
  refine endA_ret _ _ (Res1 rfl (RV.tmp _) (Weak.mk' [] _ (List.Perm.refl _) (VwHs.refl _ _) (VwL.refl _ _))) ?_
  exact ⟨_, rfl, rfl⟩
end Go.Proofs.YtkhhlmonhapmaaaGreatDoor
namespace Go.Proofs.YtkhhlmonhapmaaaGreatDoor
open Go.RowKit
def pw1 : List UInt8 := [106, 111, 98, 32, 97, 32, 123]
def pw2 : List UInt8 := [106, 111, 98, 32, 97, 32, 123, 32, 114, 117, 110, 32, 34, 120, 34, 32]
def pw3 : List UInt8 := [32, 125]
def parL (s raw : List UInt8) : List (List UInt8) := [s, raw, pw1 ++ raw, pw2 ++ raw ++ pw3]
theorem parL_len (s raw : List UInt8) (h : s.length ≤ 5000) (hr : raw.length ≤ 400) : ∀ x ∈ parL s raw, x.length ≤ 10000 := by
  intro x hx
  simp only [parL, List.mem_cons, List.not_mem_nil, or_false] at hx
  rcases hx with rfl | rfl | rfl | rfl <;> (try simp only [pw1, pw2, pw3, List.length_append, List.length_cons, List.length_nil]) <;> omega
set_option maxRecDepth 100000 in
set_option maxHeartbeats 8000000 in
theorem parses_s (l : List Int) (raw : List UInt8) (hd : DK l) : Spec Tryz.prog 3 [] [.sq l.length (ia l), .x (.string (bs raw))] (fun r H' => r = .x (.bool true) ∧ H' = []) := by
  refine Spec_of Tryz.func3 rfl ?_
  simp only [Tryz.ntmps3, List.length_cons, List.length_nil, List.replicate_succ, List.replicate_zero, List.cons_append, List.nil_append, Nat.reduceAdd, Nat.reduceSub]
  (repeat' (first | with_reducible (first | refine awp_seq ?_ | refine awp_region ?_ | refine awp_block ?_ | refine awp_ret ?_ | refine awp_skip ?_ | refine awpL_nil ?_ | refine thenA_normal ?_ | refine thenA_ret ?_) | (refine awp_cond _ rfl (fun h => ?_) (fun h => ?_) <;> first | (exact absurd h (by decide)) | ((try (simp only [whn] at h)); skip)) | ((apply awpL_evl2 rfl); (case h => ((first | (apply Evl_k 0 rfl; (first | exact Evl_mv _ rfl | exact Evl_as _ rfl)) | (apply Evl_k 3 rfl; (exact Evl_len _ _ _ _ _ _ HEl.out rfl rfl)) | (apply Evl_k 11 rfl; (exact Evl_call 10 Tryz.f10 _ _ rfl rfl Tryz.func10 (by decide) rfl (VwL.refl _ _) (sane06_s))) | (apply Evl_k 12 rfl; (first | exact Evl_concat _ _ pw1 _ rfl rfl rfl (by simp [pw1]; omega) | exact Evl_concat _ _ pw2 _ rfl rfl rfl (by simp [pw2]; omega) | exact Evl_concat _ _ _ pw3 rfl rfl rfl (by simp [pw2, pw3]; omega))) | (apply Evl_k 17 rfl; (exact Evl_rowall _ _ _ _ _ _ rfl HElem.out rfl (by first | rfl | fail) rfl rfl (by decide))) | (apply Evl_x; (case hs => (intro _ _ h; cases h)); (case hx => rfl); (case hrun => (intro w; simp [wtb, AV.val, go_sem]; skip; rfl)))))); (case hT => ((try simp only [wtn]); rfl))) | (refine awpL_cons rfl ?_; (((refine Stp_k 11 rfl ?_; (first | (refine Stp_call 11 Tryz.f11 ([]) _ _ _ rfl rfl Tryz.func11 (by decide) rfl (List.Perm.refl _) (VwL.refl _ _) (new_w l []) ?_; rintro _ _ ⟨bd, rfl, rfl⟩) | (refine Stp_call 13 Tryz.f13 [_] _ _ _ rfl rfl Tryz.func13 (by decide) rfl (List.Perm.refl _) (VwL.refl _ _) (procfile_w _ l 0 hd (Nat.zero_le _)) ?_; rintro _ _ ⟨s0, k1, rfl, rfl, hk1, hs0, hx0⟩) | (refine Stp_call 12 Tryz.f12 [_] _ _ _ rfl rfl Tryz.func12 (by decide) rfl (List.Perm.refl _) (VwL.refl _ _) (spoil_w _ l _ _ hd (by assumption) (by omega)) ?_; rintro _ _ ⟨s, k2, rfl, rfl, hk2, hs⟩)))); apply awpL_cong; (case hT => ((try simp only [wtn]); rfl)); (case hH => ((try simp only [wtn]); rfl)))) | fail))
  · refine endA_ret _ _ (Res1 rfl (RV.tmp _) (Weak.mk' [] _ (List.Perm.refl _) (VwHs.refl _ _) (VwL.refl _ _))) ?_
    exact ⟨rfl, rfl⟩
  have hL := Lib.hid (parL_len s raw (by omega) (by omega))
  refine awp_loopS (S := Nat) (fun q => frm 57 [(31, .sq 4 (sa (parL s raw))), (32, .x (.int .i64 4)), (33, .x (.int .i64 q))]) (fun q => []) (fun q => q ≤ 4) (fun q => 4 - q) 0 ?a (Nat.zero_le _) fun q hq => ?_
  case a => exact (Weak.mk' [_] [] (List.Perm.refl _) (VwHs.refl _ _) (by (repeat' (first | exact VwL.nil | (refine VwL.cons ?_ ?_) | exact Vw.refl _ | exact Vw.top _ | fail))))
  simp only [frm, List.replicate_succ, List.replicate_zero, List.foldl_cons, List.foldl_nil, List.set_cons_zero, List.set_cons_succ]
  by_cases hk : q < (parL s raw).length
  · have hx := hL.out _ (List.getElem_mem hk)
    have h1 := gparse_t (parL s raw)[q] (by omega)
    have h2 := rparse_t (parL s raw)[q] (by omega)
    have h3 := same06_s _ (jbs_ok (parL s raw)[q])
    have h7 : q < 4 := hk
    have hdr := sa_drop (parL s raw) q hk
    generalize (parL s raw)[q] = x at *
    generalize gParse x = g at *
    have hln : (sa (parL s raw)).length = 4 := by simp [parL]
    (repeat' (first | with_reducible (first | refine awp_seq ?_ | refine awp_region ?_ | refine awp_block ?_ | refine awp_skip ?_ | refine awpL_nil ?_ | refine thenA_normal ?_ | refine inBlockA_normal ?_) | (refine awp_cond _ rfl (fun h => ?_) (fun h => ?_) <;> first | (exact absurd h (by decide)) | ((try (simp only [whn] at h)); first | (exfalso; omega; done) | skip)) | ((first | apply awpL_evl2 rfl | apply awpL_g2 _ _ rfl rfl rfl); (case h => ((try (intro (hp : (_ : Bool) = true); ((try simp only [Bool.not_eq_true'] at hp); skip; skip))); (first | (apply Evl_k 0 rfl; (first | exact Evl_mv _ rfl | exact Evl_as _ rfl)) | (apply Evl_k 1 rfl; (exact Evl_pickf _ _ _ rfl rfl)) | (apply Evl_k 2 rfl; (exact Evl_extract _ _ _ _ rfl rfl rfl)) | (apply Evl_k 6 rfl; (first | exact Evl_load_at _ _ _ _ _ rfl rfl HAgg.out (by first | exact Nat.le_of_ble_eq_true rfl | fail) (by first | exact Nat.le_of_ble_eq_true rfl | fail) | exact Evl_load _ _ _ _ _ _ _ _ rfl rfl FBox.out HAgg.out (by first | exact Nat.le_of_ble_eq_true rfl | fail) (by first | exact Nat.le_of_ble_eq_true rfl | fail))) | (apply Evl_k 7 rfl; (exact Evl_index_sq _ _ _ _ _ _ _ _ _ _ rfl rfl rfl HEl.out rfl (by first | omega | fail) (by simp; first | omega | fail))) | (apply Evl_k 11 rfl; (first | exact Evl_call 14 Tryz.f14 _ _ rfl rfl Tryz.func14 (by decide) rfl (VwL.refl _ _) (h1) | exact Evl_call 15 Tryz.f15 _ _ rfl rfl Tryz.func15 (by decide) rfl (VwL.refl _ _) (h2) | exact Evl_call 16 Tryz.f16 _ _ rfl rfl Tryz.func16 (by decide) rfl (VwL.refl _ _) (h3))) | (apply Evl_x; (case hs => (intro _ _ h; cases h)); (case hx => rfl); (case hrun => (intro w; simp [wtb, AV.val, go_sem]; (try go_bits); rfl)))))); (case hT => ((try simp (disch := omega) only [wtn, hdr, List.append_eq, List.foldl_cons, List.foldl_nil, List.map_cons, List.map_nil, Nat.reduceAdd, Nat.reduceMul, Nat.reduceSub, ↓reduceIte, Nat.reduceEqDiff]); rfl))) | (refine awpL_cons rfl ?_; ((first | (refine Stp_k 14 rfl ?_; ((refine Stp_alloc _ _ rfl HZero.out rfl (fun b => ?_)))) | (refine Stp_k 16 rfl ?_; ((refine Stp_store _ _ _ _ _ _ _ rfl rfl FBox.out HSize.out (by first | rfl | fail) (by first | exact Nat.le_of_ble_eq_true rfl | fail) ?_)))); apply awpL_cong; (case hT => ((try simp (disch := omega) only [wtn, hdr, List.append_eq, List.foldl_cons, List.foldl_nil, List.map_cons, List.map_nil, Nat.reduceAdd, Nat.reduceMul, Nat.reduceSub, ↓reduceIte, Nat.reduceEqDiff]); rfl)); (case hH => ((try simp (disch := omega) only [wtn, hdr, List.append_eq, List.foldl_cons, List.foldl_nil, List.map_cons, List.map_nil, Nat.reduceAdd, Nat.reduceMul, Nat.reduceSub, ↓reduceIte, Nat.reduceEqDiff]); rfl)))) | fail))
    refine ⟨q + 1, by omega, by omega, ?_⟩
    exact (Weak.mk' [_, _] [] (List.Perm.refl _) (VwHs.refl _ _) (by (repeat' (first | exact VwL.nil | (refine VwL.cons ?_ ?_) | exact Vw.refl _ | exact Vw.top _ | fail))))
  · have h7 : ¬ q < 4 := hk
    (repeat' (first | with_reducible (first | refine awp_seq ?_ | refine awp_region ?_ | refine awp_ret ?_ | refine awp_exit ?_ | refine awpL_nil ?_ | refine thenA_normal ?_ | refine thenA_exit ?_ | refine inBlockA_eq ?_) | (refine awp_cond _ rfl (fun h => ?_) (fun h => ?_) <;> ((try (simp only [whn] at h)); first | (exfalso; omega; done) | skip)) | ((apply awpL_evl2 rfl); (case h => ((first | (apply Evl_k 0 rfl; (exact Evl_as _ rfl)) | (apply Evl_x; (case hs => (intro _ _ h; cases h)); (case hx => rfl); (case hrun => (intro w; simp [wtb, AV.val, go_sem]; skip; rfl)))))); (case hT => ((try simp only [wtn]); rfl))) | fail))
    refine endA_ret _ _ (Res1 rfl (RV.tmp _) (Weak.mk' [] _ (List.Perm.refl _) (VwHs.refl _ _) (VwL.refl _ _))) ?_
    exact ⟨rfl, rfl⟩
end Go.Proofs.YtkhhlmonhapmaaaGreatDoor
