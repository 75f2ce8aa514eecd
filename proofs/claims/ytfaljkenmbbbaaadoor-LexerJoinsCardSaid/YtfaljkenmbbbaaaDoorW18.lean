import Derived.Test.YtfaljkenmbbbaaaDoorW16
import Derived.Test.YtfaljkenmbbbaaaDoorW6
import Derived.Test.YtfaljkenmbbbaaaDoorW9
import Derived.Test.YtfaljkenmbbbaaaDoorW5
import Derived.Shelf.Strings.Builder1
import Derived.Shelf.Small.Strs
import Derived.Test.YtfaljkenmbbbaaaDoorW10
import Derived.WalkKit
import Derived.Lib.Builder
import Derived.Laws.Externs
import Derived.OwnWalk
/- The program's lexer: letters, digits, digits of base 16, what stands behind a mark. -/
namespace Go.Proofs.YtfaljkenmbbbaaaDoor
open Go.RowKit
set_option linter.unusedSimpArgs false
set_option linter.unusedVariables false
/-- A test of bytes. -/
def ByteTest (f : Nat) (p : UInt8 → Bool) : Prop := ∀ b : UInt8, Spec Tryd.prog f [] [.x (.int .u8 (b.toNat : Nat))] (fun r H' => r = .x (.bool (p b)) ∧ H' = [])
def hexI (b : UInt8) : Int := match hexv b with | some n => (n : Int) | none => -1
theorem hexI_some {b : UInt8} {n : Nat} (h : hexv b = some n) : hexI b = n := by unfold hexI; rw [h]
theorem hexI_none {b : UInt8} (h : hexv b = none) : hexI b = -1 := by unfold hexI; rw [h]
set_option maxRecDepth 100000 in
set_option maxHeartbeats 8000000 in
theorem isLetter_s : ByteTest 56 isLet := by
  intro b
  refine Spec_of Tryd.func56 rfl ?_
  simp only [Tryd.ntmps56, List.length_cons, List.length_nil, List.replicate_succ, List.replicate_zero, List.cons_append, List.nil_append, Nat.reduceAdd, Nat.reduceSub]
  (repeat' (first | with_reducible (first | refine awp_seq ?_ | refine awp_region ?_ | refine awp_ret ?_ | refine awpL_nil ?_ | refine thenA_normal ?_) | ((first | apply awpL_evl2 rfl | apply awpL_g2 _ _ rfl rfl rfl); (case h => ((try (intro (hp : (_ : Bool) = true); ((try simp only [Bool.and_eq_true, Bool.not_eq_true', Bool.not_eq_true] at hp); (try simp only [hp, wte]); (try simp only [whn] at hp)))); (first | (apply Evl_k 0 rfl; (first | exact Evl_mv _ rfl | exact Evl_as _ rfl)) | (apply Evl_k 1 rfl; (first | exact Evl_and _ _ _ _ _ rfl rfl rfl rfl | exact Evl_or _ _ _ _ _ rfl rfl rfl rfl | exact Evl_and' _ _ _ _ _ rfl rfl rfl rfl)) | (apply Evl_x; (case hs => (intro _ _ h; cases h)); (case hx => rfl); (case hrun => (intro w; simp [wtb, AV.val, go_sem]; (try go_bits); rfl)))))); (case hT => ((try simp only [wtn, List.append_eq, List.foldl_cons, List.foldl_nil, List.map_cons, List.map_nil, Nat.reduceAdd, Nat.reduceMul, Nat.reduceSub, ↓reduceIte, Nat.reduceEqDiff]); rfl))) | fail))
  refine endA_ret _ _ (Res1 rfl (RV.tmp _) (Weak.mk' [] _ (List.Perm.refl _) (VwHs.refl _ _) (VwL.refl _ _))) ?_
  refine ⟨?_, rfl⟩
  simp only [ev, List.getD_cons_succ, List.getD_cons_zero]
  congr 2
  rw [Bool.eq_iff_iff]
  unfold isLet
  simp only [Bool.and_eq_true, Bool.or_eq_true, decide_eq_true_eq, beq_iff_eq]
  omega
set_option maxRecDepth 100000 in
set_option maxHeartbeats 8000000 in
theorem isDigit_s : ByteTest 59 isDig := by
  intro b
  refine Spec_of Tryd.func59 rfl ?_
  simp only [Tryd.ntmps59, List.length_cons, List.length_nil, List.replicate_succ, List.replicate_zero, List.cons_append, List.nil_append, Nat.reduceAdd, Nat.reduceSub]
  (repeat' (first | with_reducible (first | refine awp_seq ?_ | refine awp_region ?_ | refine awp_ret ?_ | refine awpL_nil ?_ | refine thenA_normal ?_) | ((first | apply awpL_evl2 rfl | apply awpL_g2 _ _ rfl rfl rfl); (case h => ((try (intro (hp : (_ : Bool) = true); ((try simp only [Bool.and_eq_true, Bool.not_eq_true', Bool.not_eq_true] at hp); (try simp only [hp, wte]); (try simp only [whn] at hp)))); (first | (apply Evl_k 0 rfl; (first | exact Evl_mv _ rfl | exact Evl_as _ rfl)) | (apply Evl_k 1 rfl; (exact Evl_and _ _ _ _ _ rfl rfl rfl rfl)) | (apply Evl_x; (case hs => (intro _ _ h; cases h)); (case hx => rfl); (case hrun => (intro w; simp [wtb, AV.val, go_sem]; (try go_bits); rfl)))))); (case hT => ((try simp only [wtn, List.append_eq, List.foldl_cons, List.foldl_nil, List.map_cons, List.map_nil, Nat.reduceAdd, Nat.reduceMul, Nat.reduceSub, ↓reduceIte, Nat.reduceEqDiff]); rfl))) | fail))
  refine endA_ret _ _ (Res1 rfl (RV.tmp _) (Weak.mk' [] _ (List.Perm.refl _) (VwHs.refl _ _) (VwL.refl _ _))) ?_
  refine ⟨?_, rfl⟩
  simp only [ev, List.getD_cons_succ, List.getD_cons_zero]
  congr 2
  rw [Bool.eq_iff_iff]
  unfold isDig
  simp only [Bool.and_eq_true, Bool.or_eq_true, decide_eq_true_eq, beq_iff_eq]
  omega
set_option maxRecDepth 100000 in
set_option maxHeartbeats 8000000 in
theorem isWord_s : ByteTest 58 isWrd := by
  intro b
  refine Spec_of Tryd.func58 rfl ?_
  simp only [Tryd.ntmps58, List.length_cons, List.length_nil, List.replicate_succ, List.replicate_zero, List.cons_append, List.nil_append, Nat.reduceAdd, Nat.reduceSub]
  (repeat' (first | with_reducible (first | refine awp_seq ?_ | refine awp_region ?_ | refine awp_ret ?_ | refine awpL_nil ?_ | refine thenA_normal ?_) | ((first | apply awpL_evl2 rfl | apply awpL_g2 _ _ rfl rfl rfl); (case h => ((try (intro (hp : (_ : Bool) = true); ((try simp only [Bool.and_eq_true, Bool.not_eq_true', Bool.not_eq_true] at hp); (try simp only [hp, wte]); (try simp only [whn] at hp)))); (first | (apply Evl_k 0 rfl; (first | exact Evl_mv _ rfl | exact Evl_as _ rfl)) | (apply Evl_k 1 rfl; (exact Evl_or _ _ _ _ _ rfl rfl rfl rfl)) | (apply Evl_k 11 rfl; (first | exact Evl_call 56 Tryd.f56 _ _ rfl rfl Tryd.func56 (by decide) rfl (VwL.refl _ _) (isLetter_s b) | exact Evl_call 59 Tryd.f59 _ _ rfl rfl Tryd.func59 (by decide) rfl (VwL.refl _ _) (isDigit_s b))) | (apply Evl_x; (case hs => (intro _ _ h; cases h)); (case hx => rfl); (case hrun => (intro w; simp [wtb, AV.val, go_sem]; (try go_bits); rfl)))))); (case hT => ((try simp only [wtn, List.append_eq, List.foldl_cons, List.foldl_nil, List.map_cons, List.map_nil, Nat.reduceAdd, Nat.reduceMul, Nat.reduceSub, ↓reduceIte, Nat.reduceEqDiff]); rfl))) | fail))
  refine endA_ret _ _ (Res1 rfl (RV.tmp _) (Weak.mk' [] _ (List.Perm.refl _) (VwHs.refl _ _) (VwL.refl _ _))) ?_
  refine ⟨?_, rfl⟩
  simp only [ev, List.getD_cons_succ, List.getD_cons_zero]
  congr 2
  rw [Bool.eq_iff_iff]
  unfold isWrd
  simp only [Bool.and_eq_true, Bool.or_eq_true, decide_eq_true_eq, beq_iff_eq]
  rcases Bool.eq_false_or_eq_true (isLet b) with h1 | h1 <;> rcases Bool.eq_false_or_eq_true (isDig b) with h2 | h2 <;> simp [h1, h2] <;> omega
set_option maxRecDepth 100000 in
set_option maxHeartbeats 8000000 in
theorem hex_s (b : UInt8) : Spec Tryd.prog 90 [] [.x (.int .u8 (b.toNat : Nat))] (fun r H' => r = .x (.int .i64 (hexI b)) ∧ H' = []) := by
  have hb := b.toNat_lt
  refine Spec_of Tryd.func90 rfl ?_
  simp only [Tryd.ntmps90, List.length_cons, List.length_nil, List.replicate_succ, List.replicate_zero, List.cons_append, List.nil_append, Nat.reduceAdd, Nat.reduceSub]
  (repeat' (first | with_reducible (first | refine awp_seq ?_ | refine awp_region ?_ | refine awp_block ?_ | refine awp_ret ?_ | refine awp_skip ?_ | refine awpL_nil ?_ | refine thenA_normal ?_ | refine thenA_ret ?_ | refine inBlockA_normal ?_ | refine inBlockA_ret ?_) | (refine awp_cond _ rfl (fun h => ?_) (fun h => ?_) <;> ((try (simp only [whn] at h)); skip)) | ((first | apply awpL_evl2 rfl | apply awpL_g2 _ _ rfl rfl rfl); (case h => ((try (intro (hp : (_ : Bool) = true); ((try simp only [Bool.and_eq_true, Bool.not_eq_true', Bool.not_eq_true] at hp); (try simp only [hp, wte]); (try simp only [whn] at hp)))); (first | (apply Evl_k 0 rfl; (first | exact Evl_mv _ rfl | exact Evl_as _ rfl)) | (apply Evl_k 1 rfl; (exact Evl_and _ _ _ _ _ rfl rfl rfl rfl)) | (apply Evl_x; (case hs => (intro _ _ h; cases h)); (case hx => rfl); (case hrun => (intro w; simp [wtb, AV.val, go_sem]; (try go_bits); rfl)))))); (case hT => ((try simp only [wtn, List.append_eq, List.foldl_cons, List.foldl_nil, List.map_cons, List.map_nil, Nat.reduceAdd, Nat.reduceMul, Nat.reduceSub, ↓reduceIte, Nat.reduceEqDiff]); rfl))) | fail))
  all_goals
    refine endA_ret _ _ (Res1 rfl (RV.tmp _) (Weak.mk' [] _ (List.Perm.refl _) (VwHs.refl _ _) (VwL.refl _ _))) ?_
    refine ⟨?_, rfl⟩
    simp only [ev, List.getD_cons_succ, List.getD_cons_zero]
    congr 2
    unfold hexI hexv
    first
      | (rw [if_pos (by omega)]; simp only; omega)
      | (rw [if_neg (by omega), if_pos (by omega)]; simp only; omega)
      | (rw [if_neg (by omega), if_neg (by omega), if_pos (by omega)]; simp only; omega)
      | (rw [if_neg (by omega), if_neg (by omega), if_neg (by omega)])
end Go.Proofs.YtfaljkenmbbbaaaDoor
/- The program's lexer: what stands behind a mark. -/
namespace Go.Proofs.YtfaljkenmbbbaaaDoor
open Go.RowKit
set_option linter.unusedSimpArgs false
set_option linter.unusedVariables false
def escR (l : List UInt8) : UInt8 × Nat := match escd l with | some x => x | none => (0, 0)
theorem escR_some {l : List UInt8} {x : UInt8 × Nat} (h : escd l = some x) : escR l = x := by unfold escR; rw [h]
theorem escR_none {l : List UInt8} (h : escd l = none) : escR l = (0, 0) := by unfold escR; rw [h]
theorem or4 {p q : Nat} (hp : p < 16) (hq : q < 16) : bits BinOp.or IntKind.i64 ((p : Int) * 16) (q : Int) % 256 = ((UInt8.ofNat (16 * p + q)).toNat : Int) := by
  have e : ((p : Int) * 16) = ((p * 16 : Nat) : Int) := by simp
  rw [e]
  have e2 : bits BinOp.or IntKind.i64 ((p * 16 : Nat) : Int) (q : Int) = ((16 * p + q : Nat) : Int) := by
    show IntKind.i64.wrap (((BitVec.ofInt 64 ((p * 16 : Nat) : Int) ||| BitVec.ofInt 64 (q : Int)).toNat : Nat) : Int) = _
    rw [BitVec.ofInt_natCast, BitVec.ofInt_natCast, BitVec.toNat_or, BitVec.toNat_ofNat, BitVec.toNat_ofNat, Nat.mod_eq_of_lt (by omega), Nat.mod_eq_of_lt (by omega), Nat.mul_comm, ← Nat.two_pow_add_eq_or_of_lt (i := 4) (by omega)]
    simp [IntKind.wrap, IntKind.signed, IntKind.bits]
    omega
  rw [e2, UInt8.toNat_ofNat']
  omega
set_option maxRecDepth 100000 in
set_option maxHeartbeats 8000000 in
theorem escaped_nil : Spec Tryd.prog 80 [] [.x (.string (bs []))] (fun r H' => r = .tup [.x (.int .u8 0), .x (.int .i64 0)] ∧ H' = []) := by
  refine Spec_of Tryd.func80 rfl ?_
  simp only [Tryd.ntmps80, List.length_cons, List.length_nil, List.replicate_succ, List.replicate_zero, List.cons_append, List.nil_append, Nat.reduceAdd, Nat.reduceSub]
  (repeat' (first | with_reducible (first | refine awp_seq ?_ | refine awp_region ?_ | refine awp_ret ?_ | refine awpL_nil ?_ | refine thenA_normal ?_ | refine thenA_ret ?_) | (refine awp_cond _ rfl (fun h => ?_) (fun h => ?_) <;> first | (exact absurd h (by decide)) | ((try (simp only [whn] at h)); skip)) | ((apply awpL_evl2 rfl); (case h => ((try (intro (hp : (_ : Bool) = true); ((try simp only [Bool.and_eq_true, Bool.not_eq_true', Bool.not_eq_true] at hp); (try simp only [hp, wte]); (try simp only [whn] at hp)))); (first | (apply Evl_k 0 rfl; (first | exact Evl_mv _ rfl | exact Evl_as _ rfl)) | (apply Evl_x; (case hs => (intro _ _ h; cases h)); (case hx => rfl); (case hrun => (intro w; simp [wtb, AV.val, go_sem]; (try go_bits); rfl)))))); (case hT => ((try simp only [wtn, List.append_eq, List.foldl_cons, List.foldl_nil, List.map_cons, List.map_nil, Nat.reduceAdd, Nat.reduceMul, Nat.reduceSub, ↓reduceIte, Nat.reduceEqDiff]); rfl))) | fail))
  exact endA_ret _ _ (Res2 rfl (RV.tmp _) (RV.tmp _) (Weak.mk' [] [] (List.Perm.refl _) VwHs.nil (VwL.refl _ _))) ⟨rfl, rfl⟩
set_option maxRecDepth 100000 in
set_option maxHeartbeats 8000000 in
theorem escaped_cons (c : UInt8) (r : List UInt8) (hl : r.length ≤ 1000000) : Spec Tryd.prog 80 [] [.x (.string (bs (c :: r)))] (fun q H' => q = .tup [.x (.int .u8 ((escR (c :: r)).1.toNat : Nat)), .x (.int .i64 ((escR (c :: r)).2 : Nat))] ∧ H' = []) := by
  refine Spec_of Tryd.func80 rfl ?_
  simp only [Tryd.ntmps80, List.length_cons, List.length_nil, List.replicate_succ, List.replicate_zero, List.cons_append, List.nil_append, Nat.reduceAdd, Nat.reduceSub]
  (repeat' (first | with_reducible (first | refine awp_seq ?_ | refine awp_region ?_ | refine awp_block ?_ | refine awp_ret ?_ | refine awp_skip ?_ | refine awpL_nil ?_ | refine thenA_normal ?_ | refine thenA_ret ?_ | refine inBlockA_normal ?_ | refine inBlockA_ret ?_) | (refine awp_cond _ rfl (fun h => ?_) (fun h => ?_) <;> first | (exact absurd h (by decide)) | ((try (simp only [whn] at h)); first | (exfalso; omega; done) | skip)) | ((apply awpL_evl2 rfl); (case h => ((try (intro (hp : (_ : Bool) = true); ((try simp only [Bool.and_eq_true, Bool.not_eq_true', Bool.not_eq_true] at hp); (try simp only [hp, wte]); (try simp only [whn] at hp)))); (first | (apply Evl_k 0 rfl; (first | exact Evl_mv _ rfl | exact Evl_as _ rfl)) | (apply Evl_k 8 rfl; (exact Evl_index_str _ _ _ _ _ 0 _ rfl rfl rfl (by kernel_rfl) rfl (by simp; first | done | fail))) | (apply Evl_x; (case hs => (intro _ _ h; cases h)); (case hx => rfl); (case hrun => (intro w; simp [wtb, AV.val, go_sem]; (try go_bits); rfl)))))); (case hT => ((try simp only [wtn, List.append_eq, List.foldl_cons, List.foldl_nil, List.map_cons, List.map_nil, Nat.reduceAdd, Nat.reduceMul, Nat.reduceSub, ↓reduceIte, Nat.reduceEqDiff]); rfl))) | fail))
  case hK.hK.hK.hK.refine_2.hK.hK.hK.hK.refine_2.hK.hK.refine_2.hK.hK.refine_2.hK.hK.refine_2.hK.hK.refine_1.hK.hK.hK.refine_2 =>
    obtain ⟨a, b, r', rfl⟩ : ∃ a b r', r = a :: b :: r' := by
      match r, h with
      | [], h => simp at h
      | [a], h => simp at h
      | a :: b :: r', _ => exact ⟨a, b, r', rfl⟩
    refine awp_drawnA mixed ?_
    (apply awpA_take 0 rfl rfl (by kernel_rfl) (by intro c T H hp; simp [thenA, inBlockA, jumpA, endA] at hp); (case h => (first | exact WInd_mv _ rfl | fail)); (apply awpA_cong; (case hT => ((try simp only [wtn, List.append_eq, List.foldl_cons, List.foldl_nil, List.map_cons, List.map_nil, Nat.reduceAdd, Nat.reduceMul, Nat.reduceSub, ↓reduceIte, Nat.reduceEqDiff]); rfl)); (case hH => rfl)))
    (apply awpA_take 1 rfl rfl (by kernel_rfl) (by intro c T H hp; simp [thenA, inBlockA, jumpA, endA] at hp); (case h => exact WInd_index_str _ _ _ _ _ 1 _ rfl rfl rfl (by kernel_rfl) rfl (by simp; first | done | fail)); (apply awpA_cong; (case hT => ((try simp only [wtn, List.append_eq, List.foldl_cons, List.foldl_nil, List.map_cons, List.map_nil, Nat.reduceAdd, Nat.reduceMul, Nat.reduceSub, ↓reduceIte, Nat.reduceEqDiff]); rfl)); (case hH => rfl)))
    (apply awpA_take 3 rfl rfl (by kernel_rfl) (by intro c T H hp; simp [thenA, inBlockA, jumpA, endA] at hp); (case h => (first | exact WInd_mv _ rfl | fail)); (apply awpA_cong; (case hT => ((try simp only [wtn, List.append_eq, List.foldl_cons, List.foldl_nil, List.map_cons, List.map_nil, Nat.reduceAdd, Nat.reduceMul, Nat.reduceSub, ↓reduceIte, Nat.reduceEqDiff]); rfl)); (case hH => rfl)))
    (apply awpA_take 4 rfl rfl (by kernel_rfl) (by intro c T H hp; simp [thenA, inBlockA, jumpA, endA] at hp); (case h => exact WInd_index_str _ _ _ _ _ 2 _ rfl rfl rfl (by kernel_rfl) rfl (by simp; first | done | fail)); (apply awpA_cong; (case hT => ((try simp only [wtn, List.append_eq, List.foldl_cons, List.foldl_nil, List.map_cons, List.map_nil, Nat.reduceAdd, Nat.reduceMul, Nat.reduceSub, ↓reduceIte, Nat.reduceEqDiff]); rfl)); (case hH => rfl)))
    (refine awpA_1 2 (by decide +kernel) rfl rfl ?_; (first | (apply Stp_evl; (case h => ((apply Evl_k 11 rfl; (exact Evl_call 90 Tryd.f90 _ _ rfl rfl Tryd.func90 (by decide) rfl (VwL.refl _ _) (hex_s a))))); (apply awpA_cong; (case hT => ((try simp only [wtn, List.append_eq, List.foldl_cons, List.foldl_nil, List.map_cons, List.map_nil, Nat.reduceAdd, Nat.reduceMul, Nat.reduceSub, ↓reduceIte, Nat.reduceEqDiff]); rfl)); (case hH => rfl))) | fail))
    (refine awpA_1 5 (by decide +kernel) rfl rfl ?_; (first | (apply Stp_evl; (case h => ((apply Evl_k 11 rfl; (exact Evl_call 90 Tryd.f90 _ _ rfl rfl Tryd.func90 (by decide) rfl (VwL.refl _ _) (hex_s b))))); (apply awpA_cong; (case hT => ((try simp only [wtn, List.append_eq, List.foldl_cons, List.foldl_nil, List.map_cons, List.map_nil, Nat.reduceAdd, Nat.reduceMul, Nat.reduceSub, ↓reduceIte, Nat.reduceEqDiff]); rfl)); (case hH => rfl))) | fail))
    (refine awpA_1 6 (by decide +kernel) rfl rfl ?_; (first | (apply Stp_evl; (case h => ((apply Evl_k 0 rfl; (exact Evl_as _ rfl)))); (apply awpA_cong; (case hT => ((try simp only [wtn, List.append_eq, List.foldl_cons, List.foldl_nil, List.map_cons, List.map_nil, Nat.reduceAdd, Nat.reduceMul, Nat.reduceSub, ↓reduceIte, Nat.reduceEqDiff]); rfl)); (case hH => rfl))) | fail))
    (refine awpA_1 7 (by decide +kernel) rfl rfl ?_; (first | (apply Stp_evl; (case h => ((apply Evl_k 0 rfl; (exact Evl_as _ rfl)))); (apply awpA_cong; (case hT => ((try simp only [wtn, List.append_eq, List.foldl_cons, List.foldl_nil, List.map_cons, List.map_nil, Nat.reduceAdd, Nat.reduceMul, Nat.reduceSub, ↓reduceIte, Nat.reduceEqDiff]); rfl)); (case hH => rfl))) | fail))
    refine awpA_done (by decide +kernel) ?_
    cases ha : hexv a with
    | none =>
      have e1 := hexI_none ha
      simp only [e1]
      (repeat' (first | with_reducible (first | refine awp_seq ?_ | refine awp_region ?_ | refine awp_ret ?_ | refine awpL_nil ?_ | refine thenA_normal ?_ | refine thenA_ret ?_ | refine inBlockA_ret ?_) | (refine awp_cond _ rfl (fun h => ?_) (fun h => ?_) <;> first | (exact absurd h (by decide)) | ((try (simp only [whn] at h)); skip)) | ((apply awpL_gf rfl rfl rfl); (case hT => ((try simp only [wtn, List.append_eq, List.foldl_cons, List.foldl_nil, List.map_cons, List.map_nil, Nat.reduceAdd, Nat.reduceMul, Nat.reduceSub, ↓reduceIte, Nat.reduceEqDiff]); rfl))) | ((apply awpL_evl2 rfl); (case h => ((try (intro (hp : (_ : Bool) = true); ((try simp only [Bool.and_eq_true, Bool.not_eq_true', Bool.not_eq_true] at hp); (try simp only [hp, wte]); (try simp only [whn] at hp)))); (first | (apply Evl_k 0 rfl; (first | exact Evl_mv _ rfl | exact Evl_as _ rfl)) | (apply Evl_k 1 rfl; (exact Evl_pickt _ _ _ rfl rfl)) | (apply Evl_x; (case hs => (intro _ _ h; cases h)); (case hx => rfl); (case hrun => (intro w; simp [wtb, AV.val, go_sem]; (try go_bits); rfl)))))); (case hT => ((try simp only [wtn, List.append_eq, List.foldl_cons, List.foldl_nil, List.map_cons, List.map_nil, Nat.reduceAdd, Nat.reduceMul, Nat.reduceSub, ↓reduceIte, Nat.reduceEqDiff]); rfl))) | fail))
      have e : escR (c :: a :: b :: r') = (0, 0) := escR_none (by rw [escd_x c a b r' (by omega), ha]; rfl)
      rw [e]
      exact endA_ret _ _ (Res2 rfl (RV.tmp _) (RV.tmp _) (Weak.mk' [] [] (List.Perm.refl _) VwHs.nil (VwL.refl _ _))) ⟨rfl, rfl⟩
    | some p =>
      have e1 := hexI_some ha
      have hp := hexv_lt ha
      cases hb : hexv b with
      | none =>
        have e2 := hexI_none hb
        simp only [e1, e2]
        (repeat' (first | with_reducible (first | refine awp_seq ?_ | refine awp_region ?_ | refine awp_ret ?_ | refine awpL_nil ?_ | refine thenA_normal ?_ | refine thenA_ret ?_ | refine inBlockA_ret ?_) | (refine awp_cond _ rfl (fun h => ?_) (fun h => ?_) <;> first | (exact absurd h (by decide)) | ((try (simp only [whn] at h)); skip)) | ((first | apply awpL_evl2 rfl | apply awpL_g2 _ _ rfl rfl rfl); (case h => ((try (intro (hp : (_ : Bool) = true); ((try simp only [Bool.and_eq_true, Bool.not_eq_true', Bool.not_eq_true] at hp); (try simp only [hp, wte]); (try simp only [whn] at hp)))); (first | (apply Evl_k 0 rfl; (first | exact Evl_mv _ rfl | exact Evl_as _ rfl)) | (apply Evl_k 1 rfl; (exact Evl_pickf _ _ _ rfl rfl)) | (apply Evl_x; (case hs => (intro _ _ h; cases h)); (case hx => rfl); (case hrun => (intro w; simp [wtb, AV.val, go_sem]; (try go_bits); rfl)))))); (case hT => ((try simp only [wtn, List.append_eq, List.foldl_cons, List.foldl_nil, List.map_cons, List.map_nil, Nat.reduceAdd, Nat.reduceMul, Nat.reduceSub, ↓reduceIte, Nat.reduceEqDiff]); rfl))) | fail))
        have e : escR (c :: a :: b :: r') = (0, 0) := escR_none (by rw [escd_x c a b r' (by omega), ha, hb]; rfl)
        rw [e]
        exact endA_ret _ _ (Res2 rfl (RV.tmp _) (RV.tmp _) (Weak.mk' [] [] (List.Perm.refl _) VwHs.nil (VwL.refl _ _))) ⟨rfl, rfl⟩
      | some q =>
        have e2 := hexI_some hb
        have hq := hexv_lt hb
        simp only [e1, e2]
        (repeat' (first | with_reducible (first | refine awp_seq ?_ | refine awp_region ?_ | refine awp_ret ?_ | refine awp_skip ?_ | refine awpL_nil ?_ | refine thenA_normal ?_ | refine thenA_ret ?_ | refine inBlockA_ret ?_) | (refine awp_cond _ rfl (fun h => ?_) (fun h => ?_) <;> ((try (simp only [whn] at h)); first | (exfalso; omega; done) | skip)) | ((first | apply awpL_evl2 rfl | apply awpL_g2 _ _ rfl rfl rfl); (case h => ((try (intro (hp : (_ : Bool) = true); ((try simp only [Bool.and_eq_true, Bool.not_eq_true', Bool.not_eq_true] at hp); (try simp only [hp, wte]); (try simp only [whn] at hp)))); (first | (apply Evl_k 0 rfl; (first | exact Evl_mv _ rfl | exact Evl_as _ rfl)) | (apply Evl_k 1 rfl; (exact Evl_pickf _ _ _ rfl rfl)) | (apply Evl_x; (case hs => (intro _ _ h; cases h)); (case hx => rfl); (case hrun => (intro w; simp [wtb, AV.val, go_sem]; (try go_bits); rfl)))))); (case hT => ((try simp only [wtn, List.append_eq, List.foldl_cons, List.foldl_nil, List.map_cons, List.map_nil, Nat.reduceAdd, Nat.reduceMul, Nat.reduceSub, ↓reduceIte, Nat.reduceEqDiff]); rfl))) | fail))
        have e : escR (c :: a :: b :: r') = (UInt8.ofNat (16 * p + q), 3) := escR_some (by rw [escd_x c a b r' (by omega), ha, hb]; rfl)
        have e4 := or4 hp hq
        rw [e, ← e4]
        exact endA_ret _ _ (Res2 rfl (RV.tmp _) (RV.tmp _) (Weak.mk' [] [] (List.Perm.refl _) VwHs.nil (VwL.refl _ _))) ⟨rfl, rfl⟩
  all_goals first
    | (rw [escR_some (escd_mark c r (by omega))]; exact endA_ret _ _ (Res2 rfl (RV.tmp _) (RV.tmp _) (Weak.mk' [] [] (List.Perm.refl _) VwHs.nil (VwL.refl _ _))) ⟨rfl, rfl⟩)
    | (rw [escR_some (escd_n c r (by omega))]; exact endA_ret _ _ (Res2 rfl (RV.tmp _) (RV.tmp _) (Weak.mk' [] [] (List.Perm.refl _) VwHs.nil (VwL.refl _ _))) ⟨rfl, rfl⟩)
    | (rw [escR_some (escd_t c r (by omega))]; exact endA_ret _ _ (Res2 rfl (RV.tmp _) (RV.tmp _) (Weak.mk' [] [] (List.Perm.refl _) VwHs.nil (VwL.refl _ _))) ⟨rfl, rfl⟩)
    | (have e : escR (c :: r) = (0, 0) := by
         match r, h with
         | [], _ => exact escR_none (escd_x0 c (by omega))
         | [a], _ => exact escR_none (escd_x1 c a (by omega))
         | a :: b :: r', h => simp at h; omega
       rw [e]; exact endA_ret _ _ (Res2 rfl (RV.tmp _) (RV.tmp _) (Weak.mk' [] [] (List.Perm.refl _) VwHs.nil (VwL.refl _ _))) ⟨rfl, rfl⟩)
    | (rw [escR_none (escd_no c r (by omega))]; exact endA_ret _ _ (Res2 rfl (RV.tmp _) (RV.tmp _) (Weak.mk' [] [] (List.Perm.refl _) VwHs.nil (VwL.refl _ _))) ⟨rfl, rfl⟩)
    | trace_state
theorem escaped_s (l : List UInt8) (hl : l.length ≤ 1000000) : Spec Tryd.prog 80 [] [.x (.string (bs l))] (fun q H' => q = .tup [.x (.int .u8 ((escR l).1.toNat : Nat)), .x (.int .i64 ((escR l).2 : Nat))] ∧ H' = []) := by
  cases l with
  | nil => exact escaped_nil
  | cons c r => exact escaped_cons c r (by simp at hl; omega)
end Go.Proofs.YtfaljkenmbbbaaaDoor
/- The program's lexer: span, advance. -/
namespace Go.Proofs.YtfaljkenmbbbaaaDoor
open Go.RowKit
set_option linter.unusedSimpArgs false
set_option linter.unusedVariables false
theorem drop_get (l : List UInt8) (k : Nat) (h : k < l.length) : l.drop k = l.getD k 0 :: l.drop (k + 1) := by
  rw [List.drop_eq_getElem_cons h, getD_at l k 0 h]
set_option maxRecDepth 100000 in
set_option maxHeartbeats 8000000 in
theorem span_s (f : Nat) (fn : Func) (p : UInt8 → Bool) (hf : Tryd.prog.funcs[f]? = some fn) (hnn : fn.name ≠ "runtime.NumGoroutine") (hb : fn.body.isSome = true) (ht : ByteTest f p) (l : List UInt8) (hl : l.length ≤ 1000000) : Spec Tryd.prog 57 [] [.x (.string (bs l)), .x (.func (.func f) #[] #[])] (fun r H' => r = .x (.int .i64 (spn p l : Nat)) ∧ H' = []) := by
  refine Spec_of Tryd.func57 rfl ?_
  simp only [Tryd.ntmps57, List.length_cons, List.length_nil, List.replicate_succ, List.replicate_zero, List.cons_append, List.nil_append, Nat.reduceAdd, Nat.reduceSub]
  (repeat' (first | with_reducible (first | refine awp_seq ?_ | refine awp_region ?_ | refine awp_block ?_ | refine awpL_nil ?_ | refine thenA_normal ?_) | ((apply awpL_evl2 rfl); (case h => ((try (intro (hp : (_ : Bool) = true); ((try simp only [Bool.and_eq_true, Bool.not_eq_true', Bool.not_eq_true] at hp); (try simp only [hp, wte]); (try simp only [whn] at hp)))); ((apply Evl_k 0 rfl; (exact Evl_as _ rfl))))); (case hT => ((try simp only [wtn, List.append_eq, List.foldl_cons, List.foldl_nil, List.map_cons, List.map_nil, Nat.reduceAdd, Nat.reduceMul, Nat.reduceSub, ↓reduceIte, Nat.reduceEqDiff]); rfl))) | fail))
  refine awp_loopS (S := Nat) (fun k => frm 20 [(0, .x (.string (bs l))), (1, .x (.func (.func f) #[] #[])), (5, .x (.int .i64 k))]) (fun _ => []) (fun k => k ≤ l.length ∧ spn p l = k + spn p (l.drop k)) (fun k => l.length - k) 0 (Weak.mk' [] _ (List.Perm.refl _) (VwHs.refl _ _) (by (repeat' (first | exact VwL.nil | (refine VwL.cons ?_ ?_) | exact Vw.refl _ | exact Vw.top _ | fail)))) ⟨Nat.zero_le _, by simp⟩ fun k hk => ?_
  obtain ⟨h1, h2⟩ := hk
  have h2' := Lib.hid h2
  clear h2
  simp only [frm, List.replicate_succ, List.replicate_zero, List.foldl_cons, List.foldl_nil, List.set_cons_zero, List.set_cons_succ]
  by_cases hk : k < l.length
  · have hd := Lib.hid (drop_get l k hk)
    have htb := ht (l.getD k 0)
    cases hc : p (l.getD k 0) with
    | true =>
      rw [hc] at htb
      (repeat' (first | with_reducible (first | refine awp_seq ?_ | refine awp_region ?_ | refine awp_block ?_ | refine awp_skip ?_ | refine awpL_nil ?_ | refine thenA_normal ?_ | refine inBlockA_normal ?_) | (refine awp_cond _ rfl (fun h => ?_) (fun h => ?_) <;> ((try (simp only [whn] at h)); first | (exfalso; omega; done) | skip)) | ((first | apply awpL_evl2 rfl | apply awpL_g2 _ _ rfl rfl rfl); (case h => ((try (intro (hp : (_ : Bool) = true); ((try simp only [Bool.and_eq_true, Bool.not_eq_true', Bool.not_eq_true] at hp); (try simp only [hp, wte]); (try simp only [whn] at hp)))); (first | (apply Evl_k 0 rfl; (first | exact Evl_mv _ rfl | exact Evl_as _ rfl)) | (apply Evl_k 1 rfl; (exact Evl_and _ _ _ _ _ rfl rfl rfl rfl)) | (apply Evl_k 8 rfl; (exact Evl_index_str _ _ _ _ _ _ _ rfl rfl rfl (by kernel_rfl) rfl (by omega))) | (apply Evl_k 11 rfl; (exact Evl_call f fn _ _ rfl rfl hf hnn hb (VwL.refl _ _) htb)) | (apply Evl_x; (case hs => (intro _ _ h; cases h)); (case hx => rfl); (case hrun => (intro w; simp [wtb, AV.val, go_sem]; (try go_bits); rfl)))))); (case hT => ((try simp only [wtn, List.append_eq, List.foldl_cons, List.foldl_nil, List.map_cons, List.map_nil, Nat.reduceAdd, Nat.reduceMul, Nat.reduceSub, ↓reduceIte, Nat.reduceEqDiff]); rfl))) | fail))
      refine ⟨k + 1, by omega, ⟨by omega, ?_⟩, (Weak.mk' [] _ (List.Perm.refl _) (VwHs.refl _ _) (by (repeat' (first | exact VwL.nil | (refine VwL.cons ?_ ?_) | exact Vw.refl _ | exact Vw.top _ | fail))))⟩
      rw [h2'.out, hd.out, spn_yes _ _ _ hc]; omega
    | false =>
      rw [hc] at htb
      (repeat' (first | with_reducible (first | refine awp_seq ?_ | refine awp_region ?_ | refine awp_ret ?_ | refine awp_exit ?_ | refine awpL_nil ?_ | refine thenA_normal ?_ | refine thenA_exit ?_ | refine inBlockA_eq ?_) | (refine awp_cond _ rfl (fun h => ?_) (fun h => ?_) <;> first | (exact absurd h (by decide)) | ((try (simp only [whn] at h)); skip)) | ((first | apply awpL_evl2 rfl | apply awpL_g2 _ _ rfl rfl rfl); (case h => ((try (intro (hp : (_ : Bool) = true); ((try simp only [Bool.and_eq_true, Bool.not_eq_true', Bool.not_eq_true] at hp); (try simp only [hp, wte]); (try simp only [whn] at hp)))); (first | (apply Evl_k 0 rfl; (first | exact Evl_mv _ rfl | exact Evl_as _ rfl)) | (apply Evl_k 1 rfl; (exact Evl_and _ _ _ _ _ rfl rfl rfl rfl)) | (apply Evl_k 8 rfl; (exact Evl_index_str _ _ _ _ _ _ _ rfl rfl rfl (by kernel_rfl) rfl (by omega))) | (apply Evl_k 11 rfl; (exact Evl_call f fn _ _ rfl rfl hf hnn hb (VwL.refl _ _) htb)) | (apply Evl_x; (case hs => (intro _ _ h; cases h)); (case hx => rfl); (case hrun => (intro w; simp [wtb, AV.val, go_sem]; (try go_bits); rfl)))))); (case hT => ((try simp only [wtn, List.append_eq, List.foldl_cons, List.foldl_nil, List.map_cons, List.map_nil, Nat.reduceAdd, Nat.reduceMul, Nat.reduceSub, ↓reduceIte, Nat.reduceEqDiff]); rfl))) | fail))
      refine endA_ret _ _ (Res1 rfl (RV.tmp _) (Weak.mk' [] _ (List.Perm.refl _) (VwHs.refl _ _) (VwL.refl _ _))) ?_
      refine ⟨?_, rfl⟩
      rw [h2'.out, hd.out, spn_no _ _ _ hc]; rfl
  · have htb := ht 0
    (repeat' (first | with_reducible (first | refine awp_seq ?_ | refine awp_region ?_ | refine awp_ret ?_ | refine awp_exit ?_ | refine awpL_nil ?_ | refine thenA_normal ?_ | refine thenA_exit ?_ | refine inBlockA_eq ?_) | (refine awp_cond _ rfl (fun h => ?_) (fun h => ?_) <;> first | (exact absurd h (by decide)) | ((try (simp only [whn] at h)); skip)) | ((first | apply awpL_evl2 rfl | apply awpL_g2 _ _ rfl rfl rfl); (case h => ((try (intro (hp : (_ : Bool) = true); ((try simp only [Bool.and_eq_true, Bool.not_eq_true', Bool.not_eq_true] at hp); (try simp only [hp, wte]); (try simp only [whn] at hp)))); (first | (apply Evl_k 0 rfl; (first | exact Evl_mv _ rfl | exact Evl_as _ rfl)) | (apply Evl_k 1 rfl; (exact Evl_and _ _ _ _ _ rfl rfl rfl rfl)) | (apply Evl_k 8 rfl; (exact Evl_index_str _ _ _ _ _ _ _ rfl rfl rfl (by kernel_rfl) rfl (by omega))) | (apply Evl_k 11 rfl; (exact Evl_call f fn _ (.x (.bool false)) rfl rfl hf hnn hb (VwL.refl _ _) (by exfalso; omega))) | (apply Evl_x; (case hs => (intro _ _ h; cases h)); (case hx => rfl); (case hrun => (intro w; simp [wtb, AV.val, go_sem]; (try go_bits); rfl)))))); (case hT => ((try simp only [wtn, List.append_eq, List.foldl_cons, List.foldl_nil, List.map_cons, List.map_nil, Nat.reduceAdd, Nat.reduceMul, Nat.reduceSub, ↓reduceIte, Nat.reduceEqDiff]); rfl))) | fail))
    refine endA_ret _ _ (Res1 rfl (RV.tmp _) (Weak.mk' [] _ (List.Perm.refl _) (VwHs.refl _ _) (VwL.refl _ _))) ?_
    refine ⟨?_, rfl⟩
    have e : l.drop k = [] := List.drop_eq_nil_of_le (by omega)
    rw [h2'.out, e]; rfl
/-- A scanner: the text, the next byte, its place. -/
def scc (t : List UInt8) (at_ line col : Int) : List AV := [.x (.string (bs t)), .x (.int .i64 at_), .x (.int .i64 line), .x (.int .i64 col)]
set_option maxRecDepth 100000 in
set_option maxHeartbeats 8000000 in
theorem advance_s (b : Nat) (t : List UInt8) (i line col : Int) (n : Nat) (hi : 0 ≤ i ∧ i ≤ 1000000) (hc : 0 ≤ col ∧ col ≤ 1000000) (hn : n ≤ 1000000) : Spec Tryd.prog 38 [.box b (scc t i line col)] [.x (.pointer (some ⟨b, 0, none⟩)), .x (.int .i64 n)] (fun r H' => H' = [.box b (scc t (i + n) line (col + n))]) := by
  unfold scc
  refine Spec_of Tryd.func38 rfl ?_
  simp only [Tryd.ntmps38, List.length_cons, List.length_nil, List.replicate_succ, List.replicate_zero, List.cons_append, List.nil_append, Nat.reduceAdd, Nat.reduceSub]
  (repeat' (first | with_reducible (first | refine awp_seq ?_ | refine awp_region ?_ | refine awpL_nil ?_ | refine thenA_normal ?_) | ((apply awpL_evl2 rfl); (case h => ((try (intro (hp : (_ : Bool) = true); ((try simp only [Bool.and_eq_true, Bool.not_eq_true', Bool.not_eq_true] at hp); (try simp only [hp, wte]); (try simp only [whn] at hp)))); (first | (apply Evl_k 0 rfl; (exact Evl_mv _ rfl)) | (apply Evl_k 4 rfl; (exact Evl_nil _ rfl (by first | exact .inl ⟨_, rfl⟩ | fail))) | (apply Evl_k 5 rfl; (exact Evl_field_x _ _ _ _ _ _ rfl rfl HFld.out)) | (apply Evl_k 6 rfl; (exact Evl_load _ _ _ _ _ _ _ _ rfl rfl FBox.out HAgg.out (by first | exact Nat.le_of_ble_eq_true rfl | fail) (by first | exact Nat.le_of_ble_eq_true rfl | fail))) | (apply Evl_x; (case hs => (intro _ _ h; cases h)); (case hx => rfl); (case hrun => (intro w; simp [wtb, AV.val, go_sem]; (try go_bits); rfl)))))); (case hT => ((try simp only [wtn, List.append_eq, List.foldl_cons, List.foldl_nil, List.map_cons, List.map_nil, Nat.reduceAdd, Nat.reduceMul, Nat.reduceSub, ↓reduceIte, Nat.reduceEqDiff]); rfl))) | (refine awpL_cons rfl ?_; (((refine Stp_k 16 rfl ?_; ((refine Stp_store _ _ _ _ _ _ _ rfl rfl FBox.out HSize.out (by first | rfl | fail) (by first | exact Nat.le_of_ble_eq_true rfl | fail) ?_)))); apply awpL_cong; (case hT => ((try simp only [wtn, List.append_eq, List.foldl_cons, List.foldl_nil, List.map_cons, List.map_nil, Nat.reduceAdd, Nat.reduceMul, Nat.reduceSub, ↓reduceIte, Nat.reduceEqDiff]); rfl)); (case hH => ((try simp only [wtn, List.append_eq, List.foldl_cons, List.foldl_nil, List.map_cons, List.map_nil, Nat.reduceAdd, Nat.reduceMul, Nat.reduceSub, ↓reduceIte, Nat.reduceEqDiff]); rfl)))) | fail))
  exact endA_normal _ _ (Res0 rfl (Weak.mk' [] _ (List.Perm.refl _) (VwHs.refl _ _) (by (repeat' (first | exact VwL.nil | fail))))) rfl
end Go.Proofs.YtfaljkenmbbbaaaDoor
/- strings.IndexByte and (*strings.Builder).String: the shelf's contracts, laid at the dump of round r7 by the kit's tools (lay-shelf.mjs, lay-plain.mjs). Their numbers are of that seat alone. -/
namespace Go.Proofs.YtfaljkenmbbbaaaDoor
open Go.Shelf
def lays169_ren : Go.Shelf.Ren := ⟨fun | 169 => 29 | n => n, fun | 70 => 71 | 9 => 9 | 0 => 0 | 72 => 73 | 37 => 38 | 127 => 110 | 3 => 3 | 5 => 5 | n => n, fun | n => n⟩
theorem lays169 : Go.Proofs.Lays.n169 Tryd.prog lays169_ren := {
  mixed := by kernel_rfl
  f169 := Tryd.func29.trans (congrArg some (by kernel_rfl))
  t0 := Tryd.underlying0
  a0 := Tryd.isAgg0
  z0 := Tryd.sizeOf0
  v0 := Tryd.zeroValue0
  t3 := Tryd.underlying3
  a3 := Tryd.isAgg3
  z3 := Tryd.sizeOf3
  v3 := Tryd.zeroValue3
  t9 := Tryd.underlying9
  a9 := Tryd.isAgg9
  z9 := Tryd.sizeOf9
  v9 := Tryd.zeroValue9
  t37 := Tryd.underlying38
  a37 := Tryd.isAgg38
  z37 := Tryd.sizeOf38
  v37 := Tryd.zeroValue38
  t70 := Tryd.underlying71
  a70 := Tryd.isAgg71
  z70 := Tryd.sizeOf71
  v70 := Tryd.zeroValue71
  t72 := Tryd.underlying73
  a72 := Tryd.isAgg73
  z72 := Tryd.sizeOf73
  v72 := Tryd.zeroValue73
  t127 := Tryd.underlying110
  a127 := Tryd.isAgg110
  z127 := Tryd.sizeOf110
  v127 := Tryd.zeroValue110 }
theorem Builder_Extra_169 : Builder.Extra Tryd.prog lays169_ren := {
  sizeBuilder := by kernel_rfl
  liesBuilder := by kernel_rfl
  t5 := Tryd.underlying5
  a5 := Tryd.isAgg5
  z5 := Tryd.sizeOf5
  v5 := Tryd.zeroValue5
  infoByte := by kernel_rfl
  cellsByte := by kernel_rfl
  sizeByte := by kernel_rfl
  neB5 := by decide }
open Go.RowKit in
theorem Builder_String (B b : Nat) (l : List UInt8) (w : World) (h : Lib.IsBuilder 73 5 B b (Lib.byteCells l) w) (h0 : l ≠ []) :
    Calls Tryd.prog 29 #[.pointer (some ⟨b, 0, none⟩)] w fun e w' => e = .returned (.string ⟨l.toArray⟩) ∧ Below B w w' := Go.Proofs.Any.Builder_String lays169 Builder_Extra_169 B b l w h h0
open Go.RowKit in
theorem Builder_String_empty (B b : Nat) (w : World) (h : Lib.IsBuilder 73 5 B b [] w) (hBw : B ≤ w.heap.size) :
    Calls Tryd.prog 29 #[.pointer (some ⟨b, 0, none⟩)] w fun e w' => e = .returned (.string ⟨#[]⟩) ∧ Below B w w' := Go.Proofs.Any.Builder_String_empty lays169 Builder_Extra_169 B b w h hBw
open Go.RowKit in
theorem Builder_String_any (B b : Nat) (l : List UInt8) (w : World) (h : Lib.IsBuilder 73 5 B b (Lib.byteCells l) w) (hBw : B ≤ w.heap.size) :
    Calls Tryd.prog 29 #[.pointer (some ⟨b, 0, none⟩)] w fun e w' => e = .returned (.string ⟨l.toArray⟩) ∧ Below B w w' := Go.Proofs.Any.Builder_String_any lays169 Builder_Extra_169 B b l w h hBw
def lays137_ren : Go.Shelf.Ren := ⟨fun | 137 => 55 | 217 => 79 | 266 => 89 | n => n, fun | 9 => 9 | 5 => 5 | 3 => 3 | n => n, fun | n => n⟩
theorem lays137 : Go.Proofs.Lays.n137 Tryd.prog lays137_ren := {
  mixed := by kernel_rfl
  f137 := Tryd.func55.trans (congrArg some (by kernel_rfl))
  f217 := Tryd.func79.trans (congrArg some (by kernel_rfl))
  f266 := Tryd.func89.trans (congrArg some (by kernel_rfl))
  t3 := Tryd.underlying3
  a3 := Tryd.isAgg3
  z3 := Tryd.sizeOf3
  v3 := Tryd.zeroValue3
  t5 := Tryd.underlying5
  a5 := Tryd.isAgg5
  z5 := Tryd.sizeOf5
  v5 := Tryd.zeroValue5
  t9 := Tryd.underlying9
  a9 := Tryd.isAgg9
  z9 := Tryd.sizeOf9
  v9 := Tryd.zeroValue9 }
open Go.RowKit in
theorem strings_IndexByte (s : ByteArray) (c : Int) (w : World) :
    Calls Tryd.prog 55 #[.string s, .int .u8 c] w fun e w' => e = .returned (.int .i64 (Lib.indexByte s.data.toList c.toNat.toUInt8)) ∧ w' = w := Go.Proofs.Any.strings_IndexByte lays137 s c w
end Go.Proofs.YtfaljkenmbbbaaaDoor
/- The program's lexer: skip. -/
namespace Go.Proofs.YtfaljkenmbbbaaaDoor
open Go.RowKit
set_option linter.unusedSimpArgs false
set_option linter.unusedVariables false
theorem indexByte_cmt (l : List UInt8) : (Lib.indexByte l 10 = -1 ∧ cmt l = l.length) ∨ Lib.indexByte l 10 = cmt l := by
  induction l with
  | nil => exact .inl ⟨rfl, rfl⟩
  | cons c r ih =>
    by_cases h : c.toNat = 10
    · have e : c = 10 := UInt8.toNat_inj.1 h
      subst e
      right
      rw [cmt_no _ _ h]
      rfl
    · have e : (c == 10) = false := by
        rw [beq_eq_false_iff_ne]
        intro e; subst e; exact h rfl
      rw [cmt_yes _ _ h]
      unfold Lib.indexByte
      rw [e]
      simp only [Bool.false_eq_true, if_false, List.length_cons]
      rcases ih with ⟨h1, h2⟩ | h1
      · left; simp [h1, h2]
      · right
        rw [h1]
        have : ((cmt r : Int) == -1) = false := by rw [beq_eq_false_iff_ne]; omega
        rw [this]
        simp
theorem indexByte_s (l : List UInt8) : Spec Tryd.prog 55 [] [.x (.string (bs l)), .x (.int .u8 10)] (fun r H' => r = .x (.int .i64 (Lib.indexByte l 10)) ∧ H' = []) :=
  Spec_calls (args := [.string (bs l), .int .u8 10]) (fun w => (strings_IndexByte (bs l) 10 w).mono fun e w' ⟨h1, h2⟩ => ⟨by rw [h1]; simp [bs], h2 ▸ Below.refl _ _⟩) []
end Go.Proofs.YtfaljkenmbbbaaaDoor
/- The program's lexer: skip. -/
namespace Go.Proofs.YtfaljkenmbbbaaaDoor
open Go.RowKit
set_option linter.unusedSimpArgs false
set_option linter.unusedVariables false
theorem plc_cmt : ∀ (l : List UInt8) (p : Nat × Nat), plc p (l.take (cmt l)) = (p.1, p.2 + cmt l)
  | [], p => by simp [cmt, plc]
  | c :: r, p => by
    by_cases h : c.toNat = 10
    · rw [cmt_no _ _ h]; simp [plc]
    · rw [cmt_yes _ _ h, List.take_succ_cons, plc, if_neg h, plc_cmt r]
      simp; omega
theorem plc_next (t : List UInt8) (j : Nat) (h : j < t.length) : plc (1, 1) (t.take (j + 1)) = if (t.getD j 0).toNat = 10 then ((plc (1, 1) (t.take j)).1 + 1, 1) else ((plc (1, 1) (t.take j)).1, (plc (1, 1) (t.take j)).2 + 1) := by
  rw [← plc_at t j 1, drop_get t j h, List.take_succ_cons, List.take_zero]
  rfl
/-- The scanner at byte k. -/
def sc (t : List UInt8) (k : Nat) : List AV := scc t k (plc (1, 1) (t.take k)).1 (plc (1, 1) (t.take k)).2
theorem plc_lx : ∀ (l : List UInt8) (p : Nat × Nat), (plc p l).1 ≤ p.1 + l.length ∧ (plc p l).2 ≤ p.2 + l.length + 1 ∧ p.1 ≤ (plc p l).1
  | [], p => by simp [plc]
  | c :: r, p => by
    rw [plc]
    split
    · have := plc_lx r (p.1 + 1, 1); simp only [List.length_cons] at *; omega
    · have := plc_lx r (p.1, p.2 + 1); simp only [List.length_cons] at *; omega
theorem str_rest (t : List UInt8) (j : Nat) : (t.drop j).take (t.length - j) = t.drop j := List.take_of_length_le (by simp)
theorem skp_b {l r : List UInt8} {c : UInt8} (hl : l = c :: r) (h : c.toNat = 32 ∨ c.toNat = 9 ∨ c.toNat = 10 ∨ c.toNat = 13) : skp l = skp r + 1 := by subst hl; exact skp_blank c r h
theorem skp_c {l r : List UInt8} {c : UInt8} (hl : l = c :: r) (h : c.toNat = 35) : skp l = cmt l + skp (l.drop (cmt l)) ∧ 1 ≤ cmt l := by
  subst hl
  exact ⟨skp_cmt c r h, by rw [cmt_yes _ _ (by omega)]; omega⟩
theorem skp_n {l r : List UInt8} {c : UInt8} (hl : l = c :: r) (h : ¬(c.toNat = 32 ∨ c.toNat = 9 ∨ c.toNat = 10 ∨ c.toNat = 13)) (h2 : c.toNat ≠ 35) : skp l = 0 := by subst hl; exact skp_no c r h h2
set_option maxRecDepth 100000 in
set_option maxHeartbeats 8000000 in
theorem lskip_s (b : Nat) (t : List UInt8) (k : Nat) (hk : k ≤ t.length) (ht : t.length ≤ 100000) : Spec Tryd.prog 36 [.box b (sc t k)] [.x (.pointer (some ⟨b, 0, none⟩))] (fun r H' => H' = [.box b (sc t (nxk t k))]) := by
  unfold sc scc
  refine Spec_of Tryd.func36 rfl ?_
  simp only [Tryd.ntmps36, List.length_cons, List.length_nil, List.replicate_succ, List.replicate_zero, List.cons_append, List.nil_append, Nat.reduceAdd, Nat.reduceSub]
  (repeat' (first | with_reducible (refine awp_block ?_) | fail))
  refine awp_loopS (S := Nat) (fun j => frm 70 [(0, .x (.pointer (some ⟨b, 0, none⟩)))]) (fun j => [.box b [.x (.string (bs t)), .x (.int .i64 j), .x (.int .i64 ((plc (1, 1) (t.take j)).1 : Nat)), .x (.int .i64 ((plc (1, 1) (t.take j)).2 : Nat))]]) (fun j => j ≤ t.length ∧ j + skp (t.drop j) = k + skp (t.drop k)) (fun j => t.length - j) k (Weak.mk' [] _ (List.Perm.refl _) (VwHs.refl _ _) (by (repeat' (first | exact VwL.nil | (refine VwL.cons ?_ ?_) | exact Vw.refl _ | fail)))) ⟨hk, rfl⟩ fun j hj => ?_
  obtain ⟨h1, h2⟩ := hj
  have h2' := Lib.hid h2
  clear h2
  simp only [frm, List.replicate_succ, List.replicate_zero, List.foldl_cons, List.foldl_nil, List.set_cons_zero, List.set_cons_succ]
  have hpl := plc_lx (t.take j) (1, 1)
  rw [List.length_take, Nat.min_eq_left h1] at hpl
  by_cases hlt : j < t.length
  · have hd := drop_get t j hlt
    have hpn := plc_next t j hlt
    have hcm := plc_at t j (cmt (t.drop j))
    rw [plc_cmt] at hcm
    have hcl := cmt_le (t.drop j)
    rw [List.length_drop] at hcl
    rw [List.getD_eq_getElem?_getD] at hd hpn
    generalize hL : (plc (1, 1) (t.take j)).1 = L at hpl hpn hcm ⊢
    generalize hC : (plc (1, 1) (t.take j)).2 = C at hpl hpn hcm ⊢
    have hLC : (plc (1, 1) (t.take j)).1 = L ∧ (plc (1, 1) (t.take j)).2 = C := ⟨hL, hC⟩
    have hLC := Lib.hid hLC
    clear hL hC
    have hd' := Lib.hid hd
    have hpn' := Lib.hid hpn
    have hcm' := Lib.hid hcm
    clear hd hpn hcm
    have hib := indexByte_s (t.drop j)
    have hdl : (t.drop j).length = t.length - j := List.length_drop
    rcases indexByte_cmt (t.drop j) with ⟨hi1, hi2⟩ | hi1
    · rw [hi1] at hib
      have hcc : cmt (t.drop j) = t.length - j := by rw [hi2, hdl]
      have hcc' := Lib.hid hcc
      clear hi1 hi2 hcc
      (repeat' (first | with_reducible (first | refine awp_seq ?_ | refine awp_region ?_ | refine awp_block ?_ | refine awp_ret ?_ | refine awp_skip ?_ | refine awpL_nil ?_ | refine dr_nil ?_ | refine thenA_normal ?_ | refine thenA_ret ?_ | refine inBlockA_normal ?_ | refine inBlockA_ret ?_) | (with_reducible refine awp_drawnQ mixed ?_ ?_; (decide +kernel)) | (refine awp_cond _ rfl (fun h => ?_) (fun h => ?_) <;> first | (exact absurd h (by decide)) | ((try (simp only [whn] at h)); first | (exfalso; omega; done) | skip)) | ((first | apply awpL_evl2 rfl | apply dr_evl2 rfl); (case h => ((try (intro (hp : (_ : Bool) = true); ((try simp only [Bool.and_eq_true, Bool.not_eq_true', Bool.not_eq_true] at hp); (try simp only [hp, wte]); (try simp only [whn] at hp)))); (first | (apply Evl_k 0 rfl; (first | exact Evl_mv _ rfl | exact Evl_as _ rfl)) | (apply Evl_k 4 rfl; (exact Evl_nil _ rfl (by first | exact .inl ⟨_, rfl⟩ | fail))) | (apply Evl_k 5 rfl; (exact Evl_field_x _ _ _ _ _ _ rfl rfl HFld.out)) | (apply Evl_k 6 rfl; (exact Evl_load _ _ _ _ _ _ _ _ rfl rfl FBox.out HAgg.out (by first | exact Nat.le_of_ble_eq_true rfl | fail) (by first | exact Nat.le_of_ble_eq_true rfl | fail))) | (apply Evl_k 8 rfl; (exact Evl_index_str _ _ _ _ _ _ _ rfl rfl rfl (by kernel_rfl) rfl (by omega))) | (apply Evl_k 9 rfl; (exact Evl_slice_str _ _ _ _ _ _ _ rfl rfl (by kernel_rfl) (by first | exact .inr ⟨_, _, rfl, rfl⟩ | fail) (by first | exact .inl ⟨rfl, rfl⟩ | fail) (by omega) (by omega))) | (apply Evl_k 11 rfl; (exact Evl_call 55 Tryd.f55 _ _ rfl rfl Tryd.func55 (by decide) rfl (VwL.refl _ _) (hib))) | (apply Evl_x; (case hs => (intro _ _ h; cases h)); (case hx => rfl); (case hrun => (intro w; simp [wtb, AV.val, go_sem]; (try go_bits); rfl)))))); (case hT => ((try simp (disch := omega) only [wtn, scc, List.take_length, List.drop_zero, hdl, List.append_eq, List.foldl_cons, List.foldl_nil, List.map_cons, List.map_nil, Nat.reduceAdd, Nat.reduceMul, Nat.reduceSub, ↓reduceIte, Nat.reduceEqDiff]); rfl))) | (refine awpL_cons rfl ?_; ((first | (refine Stp_k 11 rfl ?_; (first | (refine Stp_call 38 Tryd.f38 ([_]) _ _ _ rfl rfl Tryd.func38 (by decide) rfl (List.Perm.refl _) (VwL.refl _ _) (advance_s b t j L C 1 (by omega) (by omega) (by omega)) ?_; rintro _ _ rfl) | (refine Stp_call 38 Tryd.f38 ([_]) _ _ _ rfl rfl Tryd.func38 (by decide) rfl (List.Perm.refl _) (VwL.refl _ _) (advance_s b t j L C (t.length - j) (by omega) (by omega) (by omega)) ?_; rintro _ _ rfl))) | (refine Stp_k 16 rfl ?_; ((refine Stp_store _ _ _ _ _ _ _ rfl rfl FBox.out HSize.out (by first | rfl | fail) (by first | exact Nat.le_of_ble_eq_true rfl | fail) ?_)))); apply awpL_cong; (case hT => ((try simp (disch := omega) only [wtn, scc, List.take_length, List.drop_zero, hdl, List.append_eq, List.foldl_cons, List.foldl_nil, List.map_cons, List.map_nil, Nat.reduceAdd, Nat.reduceMul, Nat.reduceSub, ↓reduceIte, Nat.reduceEqDiff]); rfl)); (case hH => ((try simp (disch := omega) only [wtn, scc, List.take_length, List.drop_zero, hdl, List.append_eq, List.foldl_cons, List.foldl_nil, List.map_cons, List.map_nil, Nat.reduceAdd, Nat.reduceMul, Nat.reduceSub, ↓reduceIte, Nat.reduceEqDiff]); rfl)))) | fail))
      all_goals first
        | (have es := skp_b hd'.out (by omega)
           have e2 := h2'.out
           refine ⟨j + 1, by omega, ⟨by omega, by omega⟩, ?_⟩
           rw [hpn'.out]
           first
             | (rw [if_pos (by omega)]; exact (Weak.mk' [] _ (List.Perm.refl _) (VwHs.refl _ _) (by (repeat' (first | exact VwL.nil | (refine VwL.cons ?_ ?_) | exact Vw.refl _ | exact Vw.top _ | fail)))))
             | (rw [if_neg (by omega)]; exact (Weak.mk' [] _ (List.Perm.refl _) (VwHs.refl _ _) (by (repeat' (first | exact VwL.nil | (refine VwL.cons ?_ ?_) | exact Vw.refl _ | exact Vw.top _ | fail))))))
        | (have es := skp_c hd'.out (by omega)
           have e2 := h2'.out
           have e3 := hcc'.out
           rw [List.drop_drop] at es
           rw [e3] at es
           refine ⟨j + (t.length - j), by omega, ⟨by omega, by omega⟩, ?_⟩
           have e4 := hcm'.out
           rw [e3] at e4
           rw [← e4]
           exact (Weak.mk' [] _ (List.Perm.refl _) (VwHs.refl _ _) (by (repeat' (first | exact VwL.nil | (refine VwL.cons ?_ ?_) | exact Vw.refl _ | exact Vw.top _ | fail)))))
        | (have es := skp_n hd'.out (by omega) (by omega)
           have e2 := h2'.out
           have ek : nxk t k = j := by unfold nxk; omega
           have e5 := hLC.out
           rw [ek, e5.1, e5.2]
           exact endA_ret _ _ (Res0 rfl (Weak.mk' [] _ (List.Perm.refl _) (VwHs.refl _ _) (by (repeat' (first | exact VwL.nil | fail))))) rfl)
        | trace_state
    · rw [hi1] at hib
      have htl : ((t.drop j).take (cmt (t.drop j))).length = cmt (t.drop j) := by rw [List.length_take, hdl]; omega
      generalize hrs : (t.drop j).take (cmt (t.drop j)) = rs at htl
      (repeat' (first | with_reducible (first | refine awp_seq ?_ | refine awp_region ?_ | refine awp_block ?_ | refine awp_ret ?_ | refine awp_skip ?_ | refine awpL_nil ?_ | refine dr_nil ?_ | refine thenA_normal ?_ | refine thenA_ret ?_ | refine inBlockA_normal ?_ | refine inBlockA_ret ?_) | (with_reducible refine awp_drawnQ mixed ?_ ?_; (decide +kernel)) | (refine awp_cond _ rfl (fun h => ?_) (fun h => ?_) <;> first | (exact absurd h (by decide)) | ((try (simp only [whn] at h)); first | (exfalso; omega; done) | skip)) | ((first | apply awpL_evl2 rfl | apply dr_evl2 rfl); (case h => ((try (intro (hp : (_ : Bool) = true); ((try simp only [Bool.and_eq_true, Bool.not_eq_true', Bool.not_eq_true] at hp); (try simp only [hp, wte]); (try simp only [whn] at hp)))); (first | (apply Evl_k 0 rfl; (first | exact Evl_mv _ rfl | exact Evl_as _ rfl)) | (apply Evl_k 4 rfl; (exact Evl_nil _ rfl (by first | exact .inl ⟨_, rfl⟩ | fail))) | (apply Evl_k 5 rfl; (exact Evl_field_x _ _ _ _ _ _ rfl rfl HFld.out)) | (apply Evl_k 6 rfl; (exact Evl_load _ _ _ _ _ _ _ _ rfl rfl FBox.out HAgg.out (by first | exact Nat.le_of_ble_eq_true rfl | fail) (by first | exact Nat.le_of_ble_eq_true rfl | fail))) | (apply Evl_k 8 rfl; (exact Evl_index_str _ _ _ _ _ _ _ rfl rfl rfl (by kernel_rfl) rfl (by omega))) | (apply Evl_k 9 rfl; (exact Evl_slice_str _ _ _ _ _ _ _ rfl rfl (by kernel_rfl) (by first | exact .inl ⟨rfl, rfl⟩ | exact .inr ⟨_, _, rfl, rfl⟩ | fail) (by first | exact .inl ⟨rfl, rfl⟩ | exact .inr ⟨_, _, rfl, rfl⟩ | fail) (by omega) (by omega))) | (apply Evl_k 11 rfl; (exact Evl_call 55 Tryd.f55 _ _ rfl rfl Tryd.func55 (by decide) rfl (VwL.refl _ _) (hib))) | (apply Evl_x; (case hs => (intro _ _ h; cases h)); (case hx => rfl); (case hrun => (intro w; simp [wtb, AV.val, go_sem]; (try go_bits); rfl)))))); (case hT => ((try simp (disch := omega) only [wtn, scc, List.take_length, List.drop_zero, hdl, hrs, htl, List.append_eq, List.foldl_cons, List.foldl_nil, List.map_cons, List.map_nil, Nat.reduceAdd, Nat.reduceMul, Nat.reduceSub, ↓reduceIte, Nat.reduceEqDiff]); rfl))) | (refine awpL_cons rfl ?_; ((first | (refine Stp_k 11 rfl ?_; (first | (refine Stp_call 38 Tryd.f38 ([_]) _ _ _ rfl rfl Tryd.func38 (by decide) rfl (List.Perm.refl _) (VwL.refl _ _) (advance_s b t j L C 1 (by omega) (by omega) (by omega)) ?_; rintro _ _ rfl) | (refine Stp_call 38 Tryd.f38 ([_]) _ _ _ rfl rfl Tryd.func38 (by decide) rfl (List.Perm.refl _) (VwL.refl _ _) (advance_s b t j L C (cmt (t.drop j)) (by omega) (by omega) (by omega)) ?_; rintro _ _ rfl))) | (refine Stp_k 16 rfl ?_; ((refine Stp_store _ _ _ _ _ _ _ rfl rfl FBox.out HSize.out (by first | rfl | fail) (by first | exact Nat.le_of_ble_eq_true rfl | fail) ?_)))); apply awpL_cong; (case hT => ((try simp (disch := omega) only [wtn, scc, List.take_length, List.drop_zero, hdl, hrs, htl, List.append_eq, List.foldl_cons, List.foldl_nil, List.map_cons, List.map_nil, Nat.reduceAdd, Nat.reduceMul, Nat.reduceSub, ↓reduceIte, Nat.reduceEqDiff]); rfl)); (case hH => ((try simp (disch := omega) only [wtn, scc, List.take_length, List.drop_zero, hdl, hrs, htl, List.append_eq, List.foldl_cons, List.foldl_nil, List.map_cons, List.map_nil, Nat.reduceAdd, Nat.reduceMul, Nat.reduceSub, ↓reduceIte, Nat.reduceEqDiff]); rfl)))) | fail))
      all_goals first
        | (have es := skp_b hd'.out (by omega)
           have e2 := h2'.out
           refine ⟨j + 1, by omega, ⟨by omega, by omega⟩, ?_⟩
           rw [hpn'.out]
           first
             | (rw [if_pos (by omega)]; exact (Weak.mk' [] _ (List.Perm.refl _) (VwHs.refl _ _) (by (repeat' (first | exact VwL.nil | (refine VwL.cons ?_ ?_) | exact Vw.refl _ | exact Vw.top _ | fail)))))
             | (rw [if_neg (by omega)]; exact (Weak.mk' [] _ (List.Perm.refl _) (VwHs.refl _ _) (by (repeat' (first | exact VwL.nil | (refine VwL.cons ?_ ?_) | exact Vw.refl _ | exact Vw.top _ | fail))))))
        | (have es := skp_c hd'.out (by omega)
           have e2 := h2'.out
           have e3 := (rfl : cmt (t.drop j) = cmt (t.drop j))
           rw [List.drop_drop] at es
           rw [e3] at es
           refine ⟨j + cmt (t.drop j), by omega, ⟨by omega, by omega⟩, ?_⟩
           have e4 := hcm'.out
           rw [e3] at e4
           rw [← e4]
           exact (Weak.mk' [] _ (List.Perm.refl _) (VwHs.refl _ _) (by (repeat' (first | exact VwL.nil | (refine VwL.cons ?_ ?_) | exact Vw.refl _ | exact Vw.top _ | fail)))))
        | (have es := skp_n hd'.out (by omega) (by omega)
           have e2 := h2'.out
           have ek : nxk t k = j := by unfold nxk; omega
           have e5 := hLC.out
           rw [ek, e5.1, e5.2]
           exact endA_ret _ _ (Res0 rfl (Weak.mk' [] _ (List.Perm.refl _) (VwHs.refl _ _) (by (repeat' (first | exact VwL.nil | fail))))) rfl)
        | trace_state
  · have e : t.drop j = [] := List.drop_eq_nil_of_le (by omega)
    have e2 := h2'.out
    rw [e, skp_nil] at e2
    have ek : nxk t k = j := by unfold nxk; omega
    rw [ek]
    (repeat' (first | with_reducible (first | refine awp_seq ?_ | refine awp_exit ?_ | refine dr_nil ?_ | refine thenA_normal ?_ | refine thenA_exit ?_ | refine inBlockA_eq ?_) | (with_reducible refine awp_drawnQ mixed ?_ ?_; (decide +kernel)) | (refine awp_cond _ rfl (fun h => ?_) (fun h => ?_) <;> ((try (simp only [whn] at h)); first | (exfalso; omega; done) | skip)) | ((apply dr_evl2 rfl); (case h => ((try (intro (hp : (_ : Bool) = true); ((try simp only [Bool.and_eq_true, Bool.not_eq_true', Bool.not_eq_true] at hp); (try simp only [hp, wte]); (try simp only [whn] at hp)))); (first | (apply Evl_k 0 rfl; (exact Evl_mv _ rfl)) | (apply Evl_k 4 rfl; (exact Evl_nil _ rfl (by first | exact .inl ⟨_, rfl⟩ | fail))) | (apply Evl_k 5 rfl; (exact Evl_field_x _ _ _ _ _ _ rfl rfl HFld.out)) | (apply Evl_k 6 rfl; (exact Evl_load _ _ _ _ _ _ _ _ rfl rfl FBox.out HAgg.out (by first | exact Nat.le_of_ble_eq_true rfl | fail) (by first | exact Nat.le_of_ble_eq_true rfl | fail))) | (apply Evl_x; (case hs => (intro _ _ h; cases h)); (case hx => rfl); (case hrun => (intro w; simp [wtb, AV.val, go_sem]; (try go_bits); rfl)))))); (case hT => ((try simp only [wtn, List.append_eq, List.foldl_cons, List.foldl_nil, List.map_cons, List.map_nil, Nat.reduceAdd, Nat.reduceMul, Nat.reduceSub, ↓reduceIte, Nat.reduceEqDiff]); rfl))) | fail))
    exact endA_normal _ _ (Res0 rfl (Weak.mk' [] _ (List.Perm.refl _) (VwHs.refl _ _) (by (repeat' (first | exact VwL.nil | fail))))) rfl
end Go.Proofs.YtfaljkenmbbbaaaDoor
/- strings.Builder at this dump: copyCheck, WriteByte. After the shelf's proofs (their copyCheck has another body where a written Builder lies elsewhere). -/
namespace Go.Proofs.YtfaljkenmbbbaaaDoor
open Go.Shelf Go.RowKit
set_option maxHeartbeats 1000000 in
set_option maxRecDepth 100000 in
theorem cc_used (b : Nat) (w : World) (h0 : w.cell? ⟨b, 0, none⟩ = some (.pointer (some ⟨b, 0, none⟩))) :
    Calls Tryd.prog 48 #[.pointer (some ⟨b, 0, none⟩)] w fun e w' => e = .returned (.tuple #[]) ∧ w' = w := by
  obtain ⟨j, hj, _⟩ := Option.map_eq_some_iff.1 Builder_Extra_169.sizeBuilder
  go_enter Tryd.func48, Tryd.ntmps48
  go_wp2
  rw [Lib.run_neq_ptr_same w _ Tryd.underlying71 hj]
  go_wp2
  go_end0
  exact ⟨rfl, rfl⟩
set_option maxHeartbeats 1000000 in
set_option maxRecDepth 100000 in
theorem cc_fresh (b : Nat) (w : World) (h0 : w.cell? ⟨b, 0, none⟩ = some (.pointer none)) (hsh : w.shape? b = some (73, 2)) (hfz : w.frozen? ⟨b, 0, none⟩ = false) :
    Calls Tryd.prog 48 #[.pointer (some ⟨b, 0, none⟩)] w fun e w' => e = .returned (.tuple #[]) ∧ w' = w.setCell ⟨b, 0, none⟩ (.pointer (some ⟨b, 0, none⟩)) := by
  obtain ⟨j, hj, hjs⟩ := Option.map_eq_some_iff.1 Builder_Extra_169.sizeBuilder
  go_enter Tryd.func48, Tryd.ntmps48
  go_wp2
  rw [Lib.run_to_unsafe w ⟨b, 0, none⟩ Tryd.underlying71 Tryd.underlying94 hj (by rw [hjs]; decide) hsh (Nat.zero_lt_succ 1)]
  simp only [Result.andThen]
  rw [Oper.upon_value]
  go_wp2
  rw [run_callFunc_extern Tryd.func66 (by kernel_rfl) (by kernel_rfl) (by kernel_rfl) (e := Extern.AbiNoEscape.same) (by kernel_rfl)]
  rw [Lib.run_noEscape]
  simp only [Result.andThen]
  rw [Oper.upon_value]
  go_wp2
  rw [Lib.run_from_unsafe w ⟨b, 0, none⟩ Tryd.underlying94 Tryd.underlying71 hj hsh Builder_Extra_169.liesBuilder]
  simp only [Result.andThen]
  rw [Oper.upon_value]
  go_wp2
  go_end0
  exact ⟨rfl, rfl⟩
theorem cc_any (B b : Nat) (bs : List Value) (w : World) (h : Lib.IsBuilder 73 5 B b bs w) :
    Calls Tryd.prog 48 #[.pointer (some ⟨b, 0, none⟩)] w fun e w' => e = .returned (.tuple #[]) ∧ (Lib.BuilderAt 73 5 B b (.pointer (some ⟨b, 0, none⟩)) bs w' ∧ Below B w w') := by
  rcases h with h | h
  · refine (cc_fresh b w h.cell0 h.shape h.frozen0).mono ?_
    rintro e w' ⟨rfl, rfl⟩
    exact ⟨rfl, h.used _, (Below.refl B w).setCell (p := ⟨b, 0, none⟩) h.1 _⟩
  · refine (cc_used b w h.cell0).mono ?_
    rintro e w' ⟨rfl, rfl⟩
    exact ⟨rfl, h, Below.refl B _⟩
set_option maxHeartbeats 2000000 in
set_option maxRecDepth 100000 in
/-- WriteByte. -/
theorem wbyte (B b : Nat) (bs : List Value) (c : Int) (w : World) (h : Lib.IsBuilder 73 5 B b bs w) (hlen : bs.length + 1 ≤ 140737488355328) (hBw : B ≤ w.heap.size) :
    Calls Tryd.prog 27 #[.pointer (some ⟨b, 0, none⟩), .int .u8 c] w fun e w' => e = .returned .nilIface ∧ (Lib.BuilderAt 73 5 B b (.pointer (some ⟨b, 0, none⟩)) (bs ++ [.int .u8 c]) w' ∧ Below B w w') := by
  obtain ⟨i0, hi, hz0, hz1, hz2⟩ := info_parts Builder_Extra_169.infoByte
  go_enter Tryd.func27, Tryd.ntmps27
  go_wp2_with (go_at_call 48; refine (cc_any B b bs _ h).mono ?_)
  rintro e w1 ⟨rfl, h1, hb1⟩
  obtain ⟨hB, v, hbk, hown, hne⟩ := h1
  have c0 : w1.cell? ⟨b, 0, none⟩ = some (.pointer (some ⟨b, 0, none⟩)) := by rw [Lib.cell_of_heap hbk]; rfl
  have c1 : w1.cell? ⟨b, 1, none⟩ = some v := by rw [Lib.cell_of_heap hbk]; rfl
  go_wp2_with (at_builtin; refine wpList_append_own _ rfl _ _ 38 rfl B 5 i0 (.int .u8 0) 1 1 Tryd.underlying38 hi hz0 hz1 hz2 rfl (by decide) _ _ _ rfl (hown.alloc _) ⟨w1.heap.size, 0, none⟩ 1 1 [.int .u8 c] rfl rfl ?c1 ?c2 ?c3 ?c4 ?c5 ?_)
  case c1 =>
    intro j u hj
    match j, hj with
    | 0, hj => simp at hj; subst hj; simp [Addr.add]
  case c2 => intro u hu; simp at hu; subst hu; rfl
  case c3 => unfold maxLen; omega
  case c4 => omega
  case c5 => have := hb1.size; simp; omega
  intro v' w2 hown' hgrow _
  have hlt : b < w1.heap.size := by
    rcases Nat.lt_or_ge b w1.heap.size with h' | h'
    · exact h'
    · simp [Array.getElem?_eq_none h'] at hbk
  have hb2 : w2.heap[b]? = some (.cells #[.pointer (some ⟨b, 0, none⟩), v] 73 (0, 0)) := by
    rw [hgrow.block b (by simp; omega) (fun e => hne e.symm), Lib.alloc_old w1 _ b hlt]
    exact hbk
  have d0 : w2.cell? ⟨b, 0, none⟩ = some (.pointer (some ⟨b, 0, none⟩)) := by rw [Lib.cell_of_heap hb2]; rfl
  have d1 : w2.cell? ⟨b, 1, none⟩ = some v := by rw [Lib.cell_of_heap hb2]; rfl
  have f1 : w2.frozen? ⟨b, 1, none⟩ = false := Lib.frozen_of_heap hb2 1
  obtain ⟨g, cap, rfl⟩ : ∃ g cap, v' = .slice (some ⟨g, 0, none⟩) (bs.length + 1) cap := by
    rcases hown'.2 with ⟨_, h0⟩ | ⟨g, cap, cur, hv, _⟩
    · omega
    · exact ⟨g, cap, hv⟩
  go_wp2
  go_ret
  refine ⟨rfl, ?_, ?_⟩
  · exact Lib.BuilderAt.put (T := 73) (e := 5) hB hb2 (bs' := bs ++ [.int .u8 c]) (by simpa using hown') Builder_Extra_169.neB5
  · exact ((hb1.alloc (by have := hb1.size; omega) _).grown hgrow (by have := hb1.size; simp; omega) (fun k hk => (hown.lt k hk).1)).setCell (p := ⟨b, 1, none⟩) hB _
end Go.Proofs.YtfaljkenmbbbaaaDoor
/- The program's lexer: quoted. -/
namespace Go.Proofs.YtfaljkenmbbbaaaDoor
open Go.RowKit
set_option linter.unusedSimpArgs false
set_option linter.unusedVariables false
theorem escaped_c (l : List UInt8) (hl : l.length ≤ 1000000) (w : World) (hg : Gw w) : Calls Tryd.prog 80 #[.string (bs l)] w fun e w' => e = .returned (.tuple #[.int .u8 ((escR l).1.toNat : Nat), .int .i64 ((escR l).2 : Nat)]) ∧ Ext w w' := by
  have h0 : DenL (fun _ => False) w [.x (.string (bs l))] [.string (bs l)] := DenL.cons' (den_x _) DenL.nil'
  have := escaped_s l hl (fun _ => False) w [.string (bs l)] (fun _ h => h.elim) ⟨by simp, List.Pairwise.nil, by simp⟩ (h0.weak fun k hk => by rcases hk with hk | ⟨x, hx, _⟩; exact hk; cases hx) (GL.none hg |>.mono fun k ⟨x, hx, _⟩ => by cases hx)
  refine this.mono fun e w' ⟨r, H', v, ⟨hr, _⟩, he, hdv, _, hfr, _⟩ => ?_
  subst hr
  rw [Den] at hdv
  obtain ⟨vals, rfl, hd⟩ := hdv
  have e2 := DenL.exact' (l := [.int .u8 ((escR l).1.toNat : Nat), .int .i64 ((escR l).2 : Nat)]) hd
  subst e2
  exact ⟨he, Fr.ext ⟨hfr.os, hfr.tape, hfr.output, hfr.size, fun k hk hn => hfr.block k hk fun ⟨x, hx, _⟩ => by cases hx⟩⟩
theorem own_ext {B : Nat} {e : TypeId} {size n : Nat} {v : Value} {bs : List Value} {w w' : World} (h : w.ownsRow B e size v n bs) (hE : Ext w w') : w'.ownsRow B e size v n bs := by
  obtain ⟨h1, h2 | ⟨g, cap, cur, e1, e2, e3, e4, e5, e6, e7⟩⟩ := h
  · exact ⟨h1, .inl h2⟩
  · have hlt : g < w.heap.size := (Array.getElem?_eq_some_iff.1 e3).1
    exact ⟨h1, .inr ⟨g, cap, cur, e1, e2, by rw [hE.block g hlt]; exact e3, e4, e5, e6, e7⟩⟩
theorem at_ext {B b : Nat} {p : Value} {bs : List Value} {w w' : World} (h : Lib.BuilderAt 73 5 B b p bs w) (hE : Ext w w') : Lib.BuilderAt 73 5 B b p bs w' := by
  obtain ⟨h1, v, h2, h3, h4⟩ := h
  have hlt : b < w.heap.size := (Array.getElem?_eq_some_iff.1 h2).1
  exact ⟨h1, v, by rw [hE.block b hlt]; exact h2, own_ext h3 hE, h4⟩
theorem is_ext {B b : Nat} {bs : List Value} {w w' : World} (h : Lib.IsBuilder 73 5 B b bs w) (hE : Ext w w') : Lib.IsBuilder 73 5 B b bs w' := h.imp (at_ext · hE) (at_ext · hE)
def quoR (x : Option (List UInt8 × Nat)) : Value := match x with | none => .tuple #[.string (bs []), .int .i64 0, .bool false] | some x => .tuple #[.string (bs x.1), .int .i64 ((x.2 : Nat) + 1), .bool true]
set_option maxRecDepth 100000 in
set_option maxHeartbeats 8000000 in
theorem quoted_c (l : List UInt8) (w : World) (hg : Gw w) (h0 : 0 < l.length) (hl : l.length ≤ 100000) : Calls Tryd.prog 60 #[.string (bs l)] w fun e w' => e = .returned (quoR (quo (l.drop 1))) ∧ Ext w w' := by
  go_enter Tryd.func60, Tryd.ntmps60
  go_wp2_with fail
  go_loopw [6] (fun i wr => ∃ (k : Nat) (out : List UInt8), 1 ≤ k ∧ k ≤ l.length ∧ i = .int .i64 k ∧ Lib.IsBuilder 73 5 w.heap.size w.heap.size (Lib.byteCells out) wr ∧ Ext w wr ∧ out.length ≤ k ∧ Hid (quo (l.drop 1) = (quo (l.drop k)).map fun x => (out ++ x.1, (k - 1) + x.2))) (fun i _ => l.length - (intOf i).toNat)
  case atStart =>
    refine ⟨1, [], Nat.le_refl _, h0, rfl, .inl ⟨Nat.le_refl _, .slice none 0 0, by unfold World.alloc; exact Array.getElem?_push_size, ⟨rfl, .inl ⟨rfl, rfl⟩⟩, by intro h; cases h⟩, Ext.al _ _, Nat.zero_le _, Lib.hid (by cases quo (l.drop 1) <;> simp)⟩
  case round =>
    obtain ⟨k, out, h1, hk, rfl, hB, hE, hol, hQ⟩ := hrel
    have hz : w.heap.size ≤ wr.heap.size := hE.size
    have hbl : (Lib.byteCells out).length = out.length := by simp [Lib.byteCells]
    by_cases hlt : k < l.length
    · have hd := Lib.hid (drop_cons hlt)
      by_cases h34 : l[k].toNat = 34
      · have hQ2 : Hid (quo (l.drop 1) = some (out, k)) := Lib.hid (by rw [hQ.out, hd.out, quo_end _ _ h34]; simp; omega)
        clear hQ hd
        have b1 : ((l[k].toNat : Int) == 34) = true := by rw [beq_iff_eq]; omega
        go_wp2_with (go_at_call 29; refine (Builder_String_any w.heap.size w.heap.size out _ hB hz).mono ?_; rintro e w1 ⟨rfl, hb1⟩)
        go_ret3
        exact ⟨by rw [hQ2.out]; simp [quoR, bs], Below.trans hE hb1⟩
      · have b1 : ((l[k].toNat : Int) == 34) = false := by rw [beq_eq_false_iff_ne]; omega
        by_cases h32 : l[k].toNat < 32
        · have hQ2 : Hid (quo (l.drop 1) = none) := Lib.hid (by rw [hQ.out, hd.out, quo_no _ _ h34 (by rw [part_cons, if_pos (.inl h32)])]; rfl)
          clear hQ hd
          go_wp2_with fail
          go_ret3
          exact ⟨by rw [hQ2.out]; simp [quoR, bs_nil], hE⟩
        · by_cases h92 : l[k].toNat = 92
          · cases hes : escd (l.drop (k + 1)) with
            | none =>
              have hQ2 : Hid (quo (l.drop 1) = none) := Lib.hid (by rw [hQ.out, hd.out, quo_no _ _ h34 (by rw [part_cons, if_neg (by omega), if_neg (by omega), hes]; rfl)]; rfl)
              clear hQ hd
              have b2 : ((l[k].toNat : Int) == 92) = true := by rw [beq_iff_eq]; omega
              go_wp2_with fail
              refine Calls.mono (escaped_c (l.drop (k + 1)) (by simp; omega) _ (hg.ext hE)) ?_
              rintro e w1 ⟨rfl, hw1⟩
              rw [escR_none hes]
              go_wp2_with fail
              go_ret3
              exact ⟨by rw [hQ2.out]; simp [quoR, bs_nil], hE.tr hw1⟩
            | some x =>
              obtain ⟨b, n⟩ := x
              have hle := escd_le hes
              rw [List.length_drop] at hle
              have hQ2 : Hid (quo (l.drop 1) = (quo (l.drop (k + (1 + n)))).map fun x => ((out ++ [b]) ++ x.1, (k + (1 + n) - 1) + x.2)) := Lib.hid (by
                rw [hQ.out, hd.out, quo_part _ _ b (n + 1) h34 (by rw [part_cons, if_neg (by omega), if_neg (by omega), hes]; rfl), ← hd.out, List.drop_drop, Option.map_map, show k + (n + 1) = k + (1 + n) by omega]
                congr 1
                funext y
                simp only [Function.comp, List.append_assoc, List.singleton_append, Prod.mk.injEq, true_and]
                omega)
              clear hQ hd
              have b2 : ((l[k].toNat : Int) == 92) = true := by rw [beq_iff_eq]; omega
              go_wp2_with fail
              refine Calls.mono (escaped_c (l.drop (k + 1)) (by simp; omega) _ (hg.ext hE)) ?_
              rintro e w1 ⟨rfl, hw1⟩
              rw [escR_some hes]
              have hB1 := is_ext hB hw1
              have hz1 : w.heap.size ≤ w1.heap.size := Nat.le_trans hz hw1.size
              have b3 : ((n : Int) == 0) = false := by rw [beq_eq_false_iff_ne]; omega
              go_wp2_with (go_at_call 27; refine (wbyte w.heap.size w.heap.size (Lib.byteCells out) b.toNat _ hB1 (by omega) hz1).mono ?_; rintro e w2 ⟨rfl, hB2, hb2⟩)
              have hB3 : Lib.BuilderAt 73 5 w.heap.size w.heap.size (.pointer (some ⟨w.heap.size, 0, none⟩)) (Lib.byteCells (out ++ [b])) w2 := by
                have : Lib.byteCells (out ++ [b]) = Lib.byteCells out ++ [.int .u8 b.toNat] := by simp [Lib.byteCells]
                rw [this]; exact hB2
              go_roundw
              case rel => exact ⟨k + (1 + n), out ++ [b], by omega, by omega, by go_num, .inr hB3, Below.trans (hE.tr hw1) hb2, by simp; omega, hQ2⟩
              case measure => simp [intOf]; omega
          · have hQ2 : Hid (quo (l.drop 1) = (quo (l.drop (k + 1))).map fun x => ((out ++ [l[k]]) ++ x.1, (k + 1 - 1) + x.2)) := Lib.hid (by
              rw [hQ.out, hd.out, quo_part _ _ l[k] 1 h34 (by rw [part_cons, if_neg (by omega), if_pos h92]), List.drop_succ_cons, List.drop_zero, Option.map_map]
              congr 1
              funext y
              simp only [Function.comp, List.append_assoc, List.singleton_append, Prod.mk.injEq, true_and]
              omega)
            clear hQ hd
            have b2 : ((l[k].toNat : Int) == 92) = false := by rw [beq_eq_false_iff_ne]; omega
            go_wp2_with (go_at_call 27; refine (wbyte w.heap.size w.heap.size (Lib.byteCells out) l[k].toNat _ hB (by omega) hz).mono ?_; rintro e w1 ⟨rfl, hB2, hb2⟩)
            have hB3 : Lib.BuilderAt 73 5 w.heap.size w.heap.size (.pointer (some ⟨w.heap.size, 0, none⟩)) (Lib.byteCells (out ++ [l[k]])) w1 := by
              have : Lib.byteCells (out ++ [l[k]]) = Lib.byteCells out ++ [.int .u8 l[k].toNat] := by simp [Lib.byteCells]
              rw [this]; exact hB2
            go_roundw
            case rel => exact ⟨k + 1, out ++ [l[k]], by omega, by omega, by go_num, .inr hB3, Below.trans hE hb2, by simp; omega, hQ2⟩
            case measure => simp [intOf]; omega
    · have hQ2 : Hid (quo (l.drop 1) = none) := Lib.hid (by rw [hQ.out, List.drop_eq_nil_of_le (by omega), quo_nil]; rfl)
      clear hQ
      go_wp2_with fail
      go_ret3
      exact ⟨by rw [hQ2.out]; simp [quoR, bs_nil], hE⟩
theorem quoted_s (l : List UInt8) (h0 : 0 < l.length) (hl : l.length ≤ 100000) (H : List Hp) : Spec Tryd.prog 60 H [.x (.string (bs l))] (fun r H' => r = .x (quoR (quo (l.drop 1))) ∧ H' = H) :=
  Spec_callsG (args := [.string (bs l)]) (fun w hg => quoted_c l w hg h0 hl) H
end Go.Proofs.YtfaljkenmbbbaaaDoor
