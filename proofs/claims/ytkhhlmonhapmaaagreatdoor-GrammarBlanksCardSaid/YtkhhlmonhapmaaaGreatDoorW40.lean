import Derived.Test.YtkhhlmonhapmaaaGreatDoorW39
import Derived.Test.YtkhhlmonhapmaaaGreatDoorW11
import Derived.Test.YtkhhlmonhapmaaaGreatDoorW26
import Derived.Test.YtkhhlmonhapmaaaGreatDoorW12
/- The program's lexer: token. -/
set_option linter.unusedSimpArgs false
set_option linter.unusedVariables false
namespace Go.Proofs.YtkhhlmonhapmaaaGreatDoor
open Go.RowKit
theorem WInd_slice_str {P : Program} {o : Oper} {ρ : Operand → AV} {H : List Hp} (t : TypeId) (x : Operand) (lo hi : Option Operand) (l h : Nat) (s : List UInt8) (ho : o.op = .slice t x lo hi none) (hx : ρ x = .x (.string (bs s))) (ht : P.underlying t = some .string)
    (hlo : (lo = none ∧ l = 0) ∨ ∃ y k, lo = some y ∧ ρ y = .x (.int k l)) (hhi : (hi = none ∧ h = s.length) ∨ ∃ y k, hi = some y ∧ ρ y = .x (.int k h)) (h1 : l ≤ h) (h2 : h ≤ s.length) : WInd P o ρ H (.x (.string (bs ((s.take h).drop l)))) := by
  intro V a w r
  have he : (bs s).extract l h = bs ((s.take h).drop l) := by
    apply ByteArray.ext; apply Array.toList_inj.1
    simp [bs, ByteArray.data_extract, List.extract_eq_take_drop, List.drop_take]
  have hrun : ∀ w', (Instr.sliceAt t (.string (bs s)) (lo.map a.eval) (hi.map a.eval) none).run P w' = .ok (.string (bs ((s.take h).drop l))) w' := by
    intro w'
    rw [← he]
    rcases hlo with ⟨rfl, rfl⟩ | ⟨y, k, rfl, hy⟩ <;> rcases hhi with ⟨rfl, rfl⟩ | ⟨z, k', rfl, hz⟩ <;>
      (try rw [Option.map_some, r.evx (by simp [ho, Op.operands]) hy]) <;> (try rw [Option.map_some, r.evx (by simp [ho, Op.operands]) hz]) <;>
      simp [Instr.sliceAt, run_underlying ht, Instr.slice, Instr.sliceBounds, Instr.sliceBound, asIntOf, h1, h2]
  refine ⟨.string (bs ((s.take h).drop l)), fun w' => ?_, by rw [Den]⟩
  simp [execOp, ho, r.evx (by simp [ho, Op.operands]) hx, hrun]
def tokV : Except Int (Int × List UInt8 × Nat) → AV
  | .ok x => .tup [.x (.int .i64 x.1), .x (.string (bs x.2.1)), .x (.int .i64 (x.2.2 : Nat)), .x .nilIface]
  | .error e => .tup [.x (.int .i64 0), .x (.string (bs [])), .x (.int .i64 0), .x (.iface 85 (.int .i64 e))]
set_option maxRecDepth 100000 in
set_option maxHeartbeats 8000000 in
theorem token_cons (c : UInt8) (r : List UInt8) (hl : r.length ≤ 50000) : Spec Tryz.prog 75 [] [.x (.string (bs (c :: r)))] (fun q H' => q = tokV (one (c :: r)) ∧ H' = []) := by
  have ht := isLetter_s c
  have hd := isDigit_s c
  have hw := span_s 118 Tryz.f118 isWrd Tryz.func118 (by decide) rfl isWord_s (c :: r) (by simp; omega)
  have hg := span_s 119 Tryz.f119 isDig Tryz.func119 (by decide) rfl isDigit_s (c :: r) (by simp; omega)
  have hq := quoted_s (c :: r) (by simp) (by simp; omega) []
  have hp := pattern_s (c :: r) (by simp) (by simp; omega) []
  simp only [List.drop_succ_cons, List.drop_zero] at hq hp
  have hwl := spn_le isWrd (c :: r)
  have hgl := spn_le isDig (c :: r)
  simp only [List.length_cons] at hwl hgl
  refine Spec_of Tryz.func75 rfl ?_
  simp only [Tryz.ntmps75, List.length_cons, List.length_nil, List.replicate_succ, List.replicate_zero, List.cons_append, List.nil_append, Nat.reduceAdd, Nat.reduceSub]
  (repeat' (first | with_reducible (first | refine awp_seq ?_ | refine awp_region ?_ | refine awp_block ?_ | refine awp_ret ?_ | refine awp_skip ?_ | refine awpL_nil ?_ | refine thenA_normal ?_ | refine thenA_ret ?_ | refine inBlockA_normal ?_ | refine inBlockA_ret ?_) | (refine awp_cond _ rfl (fun h => ?_) (fun h => ?_) <;> ((try (simp only [whn] at h)); skip)) | ((first | apply awpL_evl2 rfl | apply awpL_g2 _ _ rfl rfl rfl); (case h => ((try (intro (hp : (_ : Bool) = true); ((try simp only [Bool.and_eq_true, Bool.not_eq_true'] at hp); (try simp only [hp, wte]); (try simp only [whn] at hp)))); (first | (apply Evl_k 0 rfl; (first | exact Evl_mv _ rfl | exact Evl_as _ rfl)) | (apply Evl_k 1 rfl; (first | exact Evl_or _ _ _ _ _ rfl rfl rfl rfl | exact Evl_and' _ _ _ _ _ rfl rfl rfl rfl)) | (apply Evl_k 8 rfl; (exact Evl_index_str _ _ _ _ _ 0 _ rfl rfl rfl (by kernel_rfl) rfl (by simp; first | done | fail))) | (apply Evl_k 11 rfl; (first | exact Evl_call 116 Tryz.f116 _ _ rfl rfl Tryz.func116 (by decide) rfl (VwL.refl _ _) (ht) | exact Evl_call 119 Tryz.f119 _ _ rfl rfl Tryz.func119 (by decide) rfl (VwL.refl _ _) (hd) | exact Evl_call 117 Tryz.f117 _ _ rfl rfl Tryz.func117 (by decide) rfl (VwL.refl _ _) (hw) | exact Evl_call 117 Tryz.f117 _ _ rfl rfl Tryz.func117 (by decide) rfl (VwL.refl _ _) (hg) | exact Evl_call 120 Tryz.f120 _ _ rfl rfl Tryz.func120 (by decide) rfl (VwL.refl _ _) (hq) | exact Evl_call 121 Tryz.f121 _ _ rfl rfl Tryz.func121 (by decide) rfl (VwL.refl _ _) (hp))) | (apply Evl_x; (case hs => (intro _ _ h; cases h)); (case hx => rfl); (case hrun => (intro w; simp [wtb, AV.val, go_sem]; skip; rfl)))))); (case hT => ((try simp only [wtn]); rfl))) | fail))
  · refine awpF_drawn mixed ?_
    (first | (apply awpF_take 0 rfl rfl (by kernel_rfl) (by intro c T H hp; simp [thenA, inBlockA, jumpA, endA] at hp); (case h => ((exact WInd_mv _ rfl)))) | fail); (apply awpF_cong; (case hT => ((try simp (disch := first | omega | fail) only [wtn, List.drop_zero, List.append_eq, List.foldl_cons, List.foldl_nil, List.map_cons, List.map_nil, Nat.reduceAdd, Nat.reduceMul, Nat.reduceSub, ↓reduceIte, Nat.reduceEqDiff]); rfl)); (case hH => rfl)); (first | (apply awpF_take 1 rfl rfl (by kernel_rfl) (by intro c T H hp; simp [thenA, inBlockA, jumpA, endA] at hp); (case h => ((exact WInd_mv _ rfl)))) | fail); (apply awpF_cong; (case hT => ((try simp (disch := first | omega | fail) only [wtn, List.drop_zero, List.append_eq, List.foldl_cons, List.foldl_nil, List.map_cons, List.map_nil, Nat.reduceAdd, Nat.reduceMul, Nat.reduceSub, ↓reduceIte, Nat.reduceEqDiff]); rfl)); (case hH => rfl)); (first | (apply awpF_take 2 rfl rfl (by kernel_rfl) (by intro c T H hp; simp [thenA, inBlockA, jumpA, endA] at hp); (case h => (exact WInd_slice_str _ _ _ _ _ _ _ rfl rfl (by kernel_rfl) (by first | exact .inl ⟨rfl, rfl⟩ | fail) (by first | exact .inr ⟨_, _, rfl, rfl⟩ | fail) (by simp; done) (by simp; first | omega | fail)))) | fail); (apply awpF_cong; (case hT => ((try simp (disch := first | omega | fail) only [wtn, List.drop_zero, List.append_eq, List.foldl_cons, List.foldl_nil, List.map_cons, List.map_nil, Nat.reduceAdd, Nat.reduceMul, Nat.reduceSub, ↓reduceIte, Nat.reduceEqDiff]); rfl)); (case hH => rfl)); (first | (apply awpF_take 3 rfl rfl (by kernel_rfl) (by intro c T H hp; simp [thenA, inBlockA, jumpA, endA] at hp); (case h => ((exact WInd_mv _ rfl)))) | fail); (apply awpF_cong; (case hT => ((try simp (disch := first | omega | fail) only [wtn, List.drop_zero, List.append_eq, List.foldl_cons, List.foldl_nil, List.map_cons, List.map_nil, Nat.reduceAdd, Nat.reduceMul, Nat.reduceSub, ↓reduceIte, Nat.reduceEqDiff]); rfl)); (case hH => rfl))
    refine awpF_go ?_
    (refine awpG_1 4 (by decide +kernel) rfl rfl ?_; (first | (apply Stp_evl; (case h => ((apply Evl_k 0 rfl; (exact Evl_as _ rfl)))); (apply awpG_cong; (case hT => ((try simp only [wtn]); rfl)); (case hH => rfl))) | fail)); (refine awpG_1 5 (by decide +kernel) rfl rfl ?_; (first | (apply Stp_evl; (case h => ((apply Evl_k 0 rfl; (exact Evl_as _ rfl)))); (apply awpG_cong; (case hT => ((try simp only [wtn]); rfl)); (case hH => rfl))) | fail)); (refine awpG_1 6 (by decide +kernel) rfl rfl ?_; (first | (apply Stp_evl; (case h => ((apply Evl_k 0 rfl; (exact Evl_as _ rfl)))); (apply awpG_cong; (case hT => ((try simp only [wtn]); rfl)); (case hH => rfl))) | fail)); (refine awpG_1 7 (by decide +kernel) rfl rfl ?_; (first | (apply Stp_evl; (case h => ((apply Evl_k 0 rfl; (exact Evl_as _ rfl)))); (apply awpG_cong; (case hT => ((try simp only [wtn]); rfl)); (case hH => rfl))) | fail))
    refine awpG_done (by decide +kernel) ?_
    (repeat' (first | with_reducible (first | refine awp_ret ?_ | refine thenA_normal ?_ | refine thenA_ret ?_ | refine inBlockA_ret ?_) | fail))
    rw [one_word c r (by assumption)]
    exact endA_ret _ _ (Res4 rfl (RV.tmp _) (RV.tmp _) (RV.tmp _) (RV.tmp _) (Weak.mk' [] [] (List.Perm.refl _) (VwHs.refl _ _) (VwL.refl _ _))) ⟨by (simp only [tokV]; (first | rfl | fail)), rfl⟩
  · rw [one_numx c r (by assumption) (by assumption) (by first | omega | fail)]
    exact endA_ret _ _ (Res4 rfl (RV.tmp _) (RV.tmp _) (RV.tmp _) (RV.tmp _) (Weak.mk' [] [] (List.Perm.refl _) (VwHs.refl _ _) (VwL.refl _ _))) ⟨by (simp only [tokV]; (first | rfl | fail)), rfl⟩
  · skip
    refine awpF_drawn mixed ?_
    (first | (apply awpF_take 0 rfl rfl (by kernel_rfl) (by intro c T H hp; simp [thenA, inBlockA, jumpA, endA] at hp); (case h => ((exact WInd_mv _ rfl)))) | fail); (apply awpF_cong; (case hT => ((try simp (disch := first | omega | fail) only [wtn, List.drop_zero, List.append_eq, List.foldl_cons, List.foldl_nil, List.map_cons, List.map_nil, Nat.reduceAdd, Nat.reduceMul, Nat.reduceSub, ↓reduceIte, Nat.reduceEqDiff]); rfl)); (case hH => rfl)); (first | (apply awpF_take 1 rfl rfl (by kernel_rfl) (by intro c T H hp; simp [thenA, inBlockA, jumpA, endA] at hp); (case h => ((exact WInd_mv _ rfl)))) | fail); (apply awpF_cong; (case hT => ((try simp (disch := first | omega | fail) only [wtn, List.drop_zero, List.append_eq, List.foldl_cons, List.foldl_nil, List.map_cons, List.map_nil, Nat.reduceAdd, Nat.reduceMul, Nat.reduceSub, ↓reduceIte, Nat.reduceEqDiff]); rfl)); (case hH => rfl)); (first | (apply awpF_take 2 rfl rfl (by kernel_rfl) (by intro c T H hp; simp [thenA, inBlockA, jumpA, endA] at hp); (case h => (exact WInd_slice_str _ _ _ _ _ _ _ rfl rfl (by kernel_rfl) (by first | exact .inl ⟨rfl, rfl⟩ | fail) (by first | exact .inr ⟨_, _, rfl, rfl⟩ | fail) (by simp; done) (by simp; first | omega | fail)))) | fail); (apply awpF_cong; (case hT => ((try simp (disch := first | omega | fail) only [wtn, List.drop_zero, List.append_eq, List.foldl_cons, List.foldl_nil, List.map_cons, List.map_nil, Nat.reduceAdd, Nat.reduceMul, Nat.reduceSub, ↓reduceIte, Nat.reduceEqDiff]); rfl)); (case hH => rfl)); (first | (apply awpF_take 3 rfl rfl (by kernel_rfl) (by intro c T H hp; simp [thenA, inBlockA, jumpA, endA] at hp); (case h => ((exact WInd_mv _ rfl)))) | fail); (apply awpF_cong; (case hT => ((try simp (disch := first | omega | fail) only [wtn, List.drop_zero, List.append_eq, List.foldl_cons, List.foldl_nil, List.map_cons, List.map_nil, Nat.reduceAdd, Nat.reduceMul, Nat.reduceSub, ↓reduceIte, Nat.reduceEqDiff]); rfl)); (case hH => rfl))
    refine awpF_go ?_
    (refine awpG_1 4 (by decide +kernel) rfl rfl ?_; (first | (apply Stp_evl; (case h => ((apply Evl_k 0 rfl; (exact Evl_as _ rfl)))); (apply awpG_cong; (case hT => ((try simp only [wtn]); rfl)); (case hH => rfl))) | fail)); (refine awpG_1 5 (by decide +kernel) rfl rfl ?_; (first | (apply Stp_evl; (case h => ((apply Evl_k 0 rfl; (exact Evl_as _ rfl)))); (apply awpG_cong; (case hT => ((try simp only [wtn]); rfl)); (case hH => rfl))) | fail)); (refine awpG_1 6 (by decide +kernel) rfl rfl ?_; (first | (apply Stp_evl; (case h => ((apply Evl_k 0 rfl; (exact Evl_as _ rfl)))); (apply awpG_cong; (case hT => ((try simp only [wtn]); rfl)); (case hH => rfl))) | fail)); (refine awpG_1 7 (by decide +kernel) rfl rfl ?_; (first | (apply Stp_evl; (case h => ((apply Evl_k 0 rfl; (exact Evl_as _ rfl)))); (apply awpG_cong; (case hT => ((try simp only [wtn]); rfl)); (case hH => rfl))) | fail))
    refine awpG_done (by decide +kernel) ?_
    (repeat' (first | with_reducible (first | refine awp_ret ?_ | refine thenA_normal ?_ | refine thenA_ret ?_ | refine inBlockA_ret ?_) | fail))
    rw [one_num c r (by assumption) (by assumption) (by first | omega | fail)]
    exact endA_ret _ _ (Res4 rfl (RV.tmp _) (RV.tmp _) (RV.tmp _) (RV.tmp _) (Weak.mk' [] [] (List.Perm.refl _) (VwHs.refl _ _) (VwL.refl _ _))) ⟨by (simp only [tokV]; (first | rfl | fail)), rfl⟩
  · skip
    cases hqq : quo r with
    | none =>
      simp only [quoR]
      (repeat' (first | with_reducible (first | refine awp_seq ?_ | refine awp_region ?_ | refine awp_ret ?_ | refine awpL_nil ?_ | refine thenA_normal ?_ | refine thenA_ret ?_ | refine inBlockA_ret ?_) | (refine awp_cond _ rfl (fun h => ?_) (fun h => ?_) <;> first | (exact absurd h (by decide)) | ((try (simp only [] at h)); skip)) | ((apply awpL_evl2 rfl); (case h => ((first | (apply Evl_k 0 rfl; (first | exact Evl_mv _ rfl | exact Evl_as _ rfl)) | (apply Evl_x; (case hs => (intro _ _ h; cases h)); (case hx => rfl); (case hrun => (intro w; simp [wtb, AV.val, go_sem]; skip; rfl)))))); (case hT => ((try simp only [wtn]); rfl))) | fail))
      rw [one_str c r (by assumption) (by assumption) (by omega)]
      simp only [hqq]
      exact endA_ret _ _ (Res4 rfl (RV.tmp _) (RV.tmp _) (RV.tmp _) (RV.tmp _) (Weak.mk' [] [] (List.Perm.refl _) (VwHs.refl _ _) (VwL.refl _ _))) ⟨by (simp only [tokV]; (first | rfl | fail)), rfl⟩
    | some x =>
      simp only [quoR]
      (repeat' (first | with_reducible (first | refine awp_seq ?_ | refine awp_region ?_ | refine awp_ret ?_ | refine awp_skip ?_ | refine awpL_nil ?_ | refine thenA_normal ?_ | refine thenA_ret ?_ | refine inBlockA_ret ?_) | (refine awp_cond _ rfl (fun h => ?_) (fun h => ?_) <;> first | (exact absurd h (by decide)) | ((try (simp only [] at h)); skip)) | ((apply awpL_evl2 rfl); (case h => ((first | (apply Evl_k 0 rfl; (first | exact Evl_mv _ rfl | exact Evl_as _ rfl)) | (apply Evl_x; (case hs => (intro _ _ h; cases h)); (case hx => rfl); (case hrun => (intro w; simp [wtb, AV.val, go_sem]; skip; rfl)))))); (case hT => ((try simp only [wtn]); rfl))) | fail))
      rw [one_str c r (by assumption) (by assumption) (by omega)]
      simp only [hqq]
      exact endA_ret _ _ (Res4 rfl (RV.tmp _) (RV.tmp _) (RV.tmp _) (RV.tmp _) (Weak.mk' [] [] (List.Perm.refl _) (VwHs.refl _ _) (VwL.refl _ _))) ⟨by (simp only [tokV]; (first | rfl | fail)), rfl⟩
  · cases hqq : sla r with
    | none =>
      simp only [quoR]
      (repeat' (first | with_reducible (first | refine awp_seq ?_ | refine awp_region ?_ | refine awp_ret ?_ | refine awpL_nil ?_ | refine thenA_normal ?_ | refine thenA_ret ?_ | refine inBlockA_ret ?_) | (refine awp_cond _ rfl (fun h => ?_) (fun h => ?_) <;> first | (exact absurd h (by decide)) | ((try (simp only [] at h)); skip)) | ((apply awpL_evl2 rfl); (case h => ((first | (apply Evl_k 0 rfl; (first | exact Evl_mv _ rfl | exact Evl_as _ rfl)) | (apply Evl_x; (case hs => (intro _ _ h; cases h)); (case hx => rfl); (case hrun => (intro w; simp [wtb, AV.val, go_sem]; skip; rfl)))))); (case hT => ((try simp only [wtn]); rfl))) | fail))
      rw [one_pat c r (by assumption) (by assumption) (by omega)]
      simp only [hqq]
      exact endA_ret _ _ (Res4 rfl (RV.tmp _) (RV.tmp _) (RV.tmp _) (RV.tmp _) (Weak.mk' [] [] (List.Perm.refl _) (VwHs.refl _ _) (VwL.refl _ _))) ⟨by (simp only [tokV]; (first | rfl | fail)), rfl⟩
    | some x =>
      simp only [quoR]
      (repeat' (first | with_reducible (first | refine awp_seq ?_ | refine awp_region ?_ | refine awp_ret ?_ | refine awp_skip ?_ | refine awpL_nil ?_ | refine thenA_normal ?_ | refine thenA_ret ?_ | refine inBlockA_ret ?_) | (refine awp_cond _ rfl (fun h => ?_) (fun h => ?_) <;> first | (exact absurd h (by decide)) | ((try (simp only [] at h)); skip)) | ((apply awpL_evl2 rfl); (case h => ((first | (apply Evl_k 0 rfl; (first | exact Evl_mv _ rfl | exact Evl_as _ rfl)) | (apply Evl_x; (case hs => (intro _ _ h; cases h)); (case hx => rfl); (case hrun => (intro w; simp [wtb, AV.val, go_sem]; skip; rfl)))))); (case hT => ((try simp only [wtn]); rfl))) | fail))
      rw [one_pat c r (by assumption) (by assumption) (by omega)]
      simp only [hqq]
      exact endA_ret _ _ (Res4 rfl (RV.tmp _) (RV.tmp _) (RV.tmp _) (RV.tmp _) (Weak.mk' [] [] (List.Perm.refl _) (VwHs.refl _ _) (VwL.refl _ _))) ⟨by (simp only [tokV]; (first | rfl | fail)), rfl⟩
  · skip
    refine awpF_drawn mixed ?_
    (first | (apply awpF_take 0 rfl rfl (by kernel_rfl) (by intro c T H hp; simp [thenA, inBlockA, jumpA, endA] at hp); (case h => ((exact WInd_mv _ rfl)))) | fail); (apply awpF_cong; (case hT => ((try simp (disch := first | omega | fail) only [wtn, List.drop_zero, List.append_eq, List.foldl_cons, List.foldl_nil, List.map_cons, List.map_nil, Nat.reduceAdd, Nat.reduceMul, Nat.reduceSub, ↓reduceIte, Nat.reduceEqDiff]); rfl)); (case hH => rfl)); (first | (apply awpF_take 1 rfl rfl (by kernel_rfl) (by intro c T H hp; simp [thenA, inBlockA, jumpA, endA] at hp); (case h => (exact WInd_slice_str _ _ _ _ _ _ _ rfl rfl (by kernel_rfl) (by first | exact .inl ⟨rfl, rfl⟩ | fail) (by first | exact .inr ⟨_, _, rfl, rfl⟩ | fail) (by simp; done) (by simp; first | done | fail)))) | fail); (apply awpF_cong; (case hT => ((try simp (disch := first | omega | fail) only [wtn, List.drop_zero, List.append_eq, List.foldl_cons, List.foldl_nil, List.map_cons, List.map_nil, Nat.reduceAdd, Nat.reduceMul, Nat.reduceSub, ↓reduceIte, Nat.reduceEqDiff]); rfl)); (case hH => rfl))
    refine awpF_go ?_
    (refine awpG_1 2 (by decide +kernel) rfl rfl ?_; (first | (apply Stp_evl; (case h => ((apply Evl_k 0 rfl; (exact Evl_as _ rfl)))); (apply awpG_cong; (case hT => ((try simp only [wtn]); rfl)); (case hH => rfl))) | fail)); (refine awpG_1 3 (by decide +kernel) rfl rfl ?_; (first | (apply Stp_evl; (case h => ((apply Evl_k 0 rfl; (exact Evl_as _ rfl)))); (apply awpG_cong; (case hT => ((try simp only [wtn]); rfl)); (case hH => rfl))) | fail)); (refine awpG_1 4 (by decide +kernel) rfl rfl ?_; (first | (apply Stp_evl; (case h => ((apply Evl_k 0 rfl; (exact Evl_as _ rfl)))); (apply awpG_cong; (case hT => ((try simp only [wtn]); rfl)); (case hH => rfl))) | fail)); (refine awpG_1 5 (by decide +kernel) rfl rfl ?_; (first | (apply Stp_evl; (case h => ((apply Evl_k 0 rfl; (exact Evl_as _ rfl)))); (apply awpG_cong; (case hT => ((try simp only [wtn]); rfl)); (case hH => rfl))) | fail))
    refine awpG_done (by decide +kernel) ?_
    (repeat' (first | with_reducible (first | refine awp_ret ?_ | refine thenA_normal ?_ | refine thenA_ret ?_ | refine inBlockA_ret ?_) | fail))
    rw [one_sign c r (by assumption) (by assumption) (by first | omega | fail)]
    exact endA_ret _ _ (Res4 rfl (RV.tmp _) (RV.tmp _) (RV.tmp _) (RV.tmp _) (Weak.mk' [] [] (List.Perm.refl _) (VwHs.refl _ _) (VwL.refl _ _))) ⟨by (simp only [tokV]; (first | rfl | fail)), rfl⟩
  · rw [one_bad c r (by assumption) (by assumption) (by omega) (by omega) (by first | omega | fail)]
    exact endA_ret _ _ (Res4 rfl (RV.tmp _) (RV.tmp _) (RV.tmp _) (RV.tmp _) (Weak.mk' [] [] (List.Perm.refl _) (VwHs.refl _ _) (VwL.refl _ _))) ⟨by (simp only [tokV]; (first | rfl | fail)), rfl⟩
end Go.Proofs.YtkhhlmonhapmaaaGreatDoor
namespace Go.Proofs.YtkhhlmonhapmaaaGreatDoor
open Go.RowKit
def noNl (l : List UInt8) : Prop := ∀ b ∈ l, b.toNat ≠ 10
theorem noNl_nil : noNl [] := fun b h => by cases h
theorem noNl_cons {c : UInt8} {r : List UInt8} (h : c.toNat ≠ 10) (hr : noNl r) : noNl (c :: r) := fun b hb => by
  rcases List.mem_cons.1 hb with rfl | hb
  · exact h
  · exact hr b hb
theorem noNl_app {a b : List UInt8} (ha : noNl a) (hb : noNl b) : noNl (a ++ b) := fun x hx => by
  rcases List.mem_append.1 hx with h | h
  · exact ha x h
  · exact hb x h
theorem plc_line : ∀ (l : List UInt8) (p : Nat × Nat), noNl l → plc p l = (p.1, p.2 + l.length)
  | [], p, _ => by simp [plc]
  | c :: r, p, h => by
    rw [plc, if_neg (h c (List.mem_cons_self ..)), plc_line r _ (fun b hb => h b (List.mem_cons_of_mem _ hb))]
    simp; omega
theorem hexv_nl {b : UInt8} {n : Nat} (h : hexv b = some n) : b.toNat ≠ 10 := by
  unfold hexv at h
  split at h
  · omega
  · split at h
    · omega
    · split at h
      · omega
      · cases h
theorem escd_line {l : List UInt8} {b : UInt8} {n : Nat} (h : escd l = some (b, n)) : noNl (l.take n) := by
  unfold escd at h
  split at h
  · cases h
  · rename_i d r
    split at h
    · cases h; exact noNl_cons (by omega) noNl_nil
    · split at h
      · cases h; exact noNl_cons (by omega) noNl_nil
      · split at h
        · cases h; exact noNl_cons (by omega) noNl_nil
        · split at h
          · split at h
            · split at h
              · rename_i h1 h2
                cases h; exact noNl_cons (by omega) (noNl_cons (hexv_nl h1) (noNl_cons (hexv_nl h2) noNl_nil))
              · cases h
            · cases h
          · cases h
theorem part_line {l : List UInt8} {b : UInt8} {n : Nat} (h : part l = some (b, n)) : noNl (l.take n) := by
  unfold part at h
  split at h
  · cases h
  · rename_i c r
    split at h
    · cases h
    · split at h
      · cases h; exact noNl_cons (by omega) noNl_nil
      · cases he : escd r with
        | none => rw [he] at h; cases h
        | some x => rw [he] at h; cases h; rw [List.take_succ_cons]; exact noNl_cons (by omega) (escd_line he)
theorem quo_line (l : List UInt8) : ∀ x, quo l = some x → noNl (l.take x.2) := by
  match h : l with
  | [] => intro x hx; rw [quo_nil] at hx; cases hx
  | c :: r =>
    intro x hx
    by_cases h1 : c.toNat = 34
    · rw [quo_end c r h1] at hx; cases hx; exact noNl_cons (by omega) noNl_nil
    · cases hp : part (c :: r) with
      | none => rw [quo_no c r h1 hp] at hx; cases hx
      | some y =>
        obtain ⟨b, n⟩ := y
        have hle := part_le hp
        rw [quo_part c r b n h1 hp] at hx
        cases hq : quo ((c :: r).drop n) with
        | none => rw [hq] at hx; cases hx
        | some z =>
          have := quo_line ((c :: r).drop n) z hq
          rw [hq] at hx; cases hx
          simp only
          rw [List.take_add]
          exact noNl_app (part_line hp) this
termination_by l.length
decreasing_by subst h; simp; omega
theorem sla_line (l : List UInt8) : ∀ x, sla l = some x → noNl (l.take x.2) := by
  match h : l with
  | [] => intro x hx; rw [sla_nil] at hx; cases hx
  | c :: r =>
    intro x hx
    by_cases h1 : c.toNat = 47
    · rw [sla_end c r h1] at hx; cases hx; exact noNl_cons (by omega) noNl_nil
    by_cases h2 : c.toNat < 32
    · rw [sla_bad c r h2] at hx; cases hx
    by_cases h3 : c.toNat = 92
    · match r, hx with
      | [], hx => rw [sla_last c h3] at hx; cases hx
      | d :: r, hx =>
        by_cases h4 : d.toNat < 32
        · rw [sla_bad2 c d r h3 h4] at hx; cases hx
        by_cases h5 : d.toNat = 47
        · rw [sla_esc c d r h3 h5] at hx
          cases hq : sla r with
          | none => rw [hq] at hx; cases hx
          | some z => have := sla_line r z hq; rw [hq] at hx; cases hx; simp only [Nat.add_comm 2, List.take_succ_cons]; exact noNl_cons (by omega) (noNl_cons (by omega) this)
        · rw [sla_two c d r h3 (by omega) h5] at hx
          cases hq : sla r with
          | none => rw [hq] at hx; cases hx
          | some z => have := sla_line r z hq; rw [hq] at hx; cases hx; simp only [Nat.add_comm 2, List.take_succ_cons]; exact noNl_cons (by omega) (noNl_cons (by omega) this)
    · rw [sla_one c r h1 (by omega) h3] at hx
      cases hq : sla r with
      | none => rw [hq] at hx; cases hx
      | some z => have := sla_line r z hq; rw [hq] at hx; cases hx; simp only [Nat.add_comm 1, List.take_succ_cons]; exact noNl_cons (by omega) this
termination_by l.length
decreasing_by
  all_goals subst h; simp; try omega
theorem spn_line (p : UInt8 → Bool) (hp : ∀ b, p b = true → b.toNat ≠ 10) : ∀ l : List UInt8, noNl (l.take (spn p l))
  | [] => noNl_nil
  | c :: r => by
    cases h : p c with
    | false => rw [spn_no _ _ _ h]; exact noNl_nil
    | true => rw [spn_yes _ _ _ h, List.take_succ_cons]; exact noNl_cons (hp c h) (spn_line p hp r)
theorem one_line {l : List UInt8} {x : Int × List UInt8 × Nat} (h : one l = .ok x) : noNl (l.take x.2.2) := by
  cases l with
  | nil => simp [one] at h
  | cons c r =>
    simp only [one] at h
    split at h
    · cases h
      exact spn_line isWrd (fun b hb => by simp only [isWrd, isDig, isLet, Bool.or_eq_true, decide_eq_true_eq] at hb; omega) _
    · split at h
      · split at h
        · cases h
        · cases h
          exact spn_line isDig (fun b hb => by simp only [isDig, decide_eq_true_eq] at hb; omega) _
      · split at h
        · cases hq : quo r with
          | none => rw [hq] at h; cases h
          | some y => rw [hq] at h; cases h; exact noNl_cons (by omega) (quo_line r y hq)
        · split at h
          · cases hq : sla r with
            | none => rw [hq] at h; cases h
            | some y => rw [hq] at h; cases h; exact noNl_cons (by omega) (sla_line r y hq)
          · split at h
            · cases h; exact noNl_cons (by omega) noNl_nil
            · cases h
theorem plc_tok {l : List UInt8} {k : Nat} {a : Int} {t : List UInt8} {m : Nat} (h : one (l.drop k) = .ok (a, t, m)) : plc (1, 1) (l.take (k + m)) = ((plc (1, 1) (l.take k)).1, (plc (1, 1) (l.take k)).2 + m) := by
  rw [← plc_at, plc_line _ _ (one_line h), List.length_take]
  have := one_le h
  simp only at this
  rw [Nat.min_eq_left this.2.1]
end Go.Proofs.YtkhhlmonhapmaaaGreatDoor
