import Derived.Test.YtkhhlmonhapmaaaGreatDoorW37
import Derived.Test.YtkhhlmonhapmaaaGreatDoorW32
import Derived.Test.YtkhhlmonhapmaaaGreatDoorW26
import Derived.Test.YtkhhlmonhapmaaaGreatDoorW7
import Derived.Test.YtkhhlmonhapmaaaGreatDoorW6
import Derived.Test.YtkhhlmonhapmaaaGreatDoorW12
import Derived.Test.YtkhhlmonhapmaaaGreatDoorW33
/- The program's parser: what its deferred function does. -/
set_option linter.unusedSimpArgs false
set_option linter.unusedVariables false
namespace Go.Proofs.YtkhhlmonhapmaaaGreatDoor
open Go.RowKit
set_option maxRecDepth 100000 in
set_option maxHeartbeats 8000000 in
theorem catch_p (b2 b3 : Nat) (c : AV) (d0 d1 d2 : AV) (f : Flt) : SpecD Tryz.prog 32 [.box b2 [c], .box b3 [d0, d1, d2]] ([.pointer (some ⟨b2, 0, none⟩), .pointer (some ⟨b3, 0, none⟩)].map AV.x) (.panicking (one1 (fv f))) (.panicking [{ v := fv f, recovered := true }])
    (fun r H' => H' = [.box b2 [.x (.slice none 0 0)], .box b3 [.x (.int .i64 f.code), .x (.int .i64 (f.line : Nat)), .x (.int .i64 (f.col : Nat))]]) := by
  refine SpecD_of Tryz.func32 rfl fun V O w0 a w r c₀ cs hu => ?_
  refine wpS_rec rfl rfl rfl rfl rfl rfl r (v := fv f) (.inl (by simp [recoverD, hu, one1])) rfl ?_
  unfold fv
  simp only [Tryz.ntmps32, List.length_cons, List.length_nil, List.replicate_succ, List.replicate_zero, List.cons_append, List.nil_append, Nat.reduceAdd, Nat.reduceSub, List.map_cons, List.map_nil, putT, List.set_cons_zero, List.set_cons_succ]
  (repeat' (first | with_reducible (first | refine awp_seq ?_ | refine awp_region ?_ | refine awpL_nil ?_ | refine thenA_normal ?_) | (refine awp_cond _ rfl (fun h => ?_) (fun h => ?_) <;> first | (exact absurd h (by decide)) | ((try (simp only [] at h)); skip)) | ((apply awpL_evl2 rfl); (case h => ((first | (apply Evl_k 0 rfl; (exact Evl_mv _ rfl)) | (apply Evl_x; (case hs => (intro _ _ h; cases h)); (case hx => rfl); (case hrun => (intro w; simp [wtb, AV.val, go_sem]; skip; rfl)))))); (case hT => ((try simp only [wtn, ↓reduceIte]); rfl))) | (refine awpL_cons rfl ?_; (((refine Stp_k 16 rfl ?_; ((refine Stp_store _ _ _ _ _ _ _ rfl rfl FBox.out HSize.out (by first | rfl | fail) (by first | exact Nat.le_of_ble_eq_true rfl | fail) ?_)))); apply awpL_cong; (case hT => ((try simp only [wtn]); rfl)); (case hH => ((try simp only [wtn, Nat.reduceAdd]); rfl)))) | fail))
  exact endA_normal _ _ (Res0 rfl (Weak.mk' [] _ (List.Perm.refl _) (VwHs.refl _ _) VwL.nil)) rfl
set_option maxRecDepth 100000 in
set_option maxHeartbeats 8000000 in
theorem idle_p (b2 b3 : Nat) (H : List Hp) : SpecD Tryz.prog 32 H ([.pointer (some ⟨b2, 0, none⟩), .pointer (some ⟨b3, 0, none⟩)].map AV.x) .returning .returning (fun r H' => H' = H) := by
  refine SpecD_of Tryz.func32 rfl fun V O w0 a w r c₀ cs hu => ?_
  refine wpS_rec rfl rfl rfl rfl rfl rfl r (v := .nilIface) (.inr ⟨by simp [recoverD, hu], rfl, hu.symm⟩) rfl ?_
  simp only [Tryz.ntmps32, List.length_cons, List.length_nil, List.replicate_succ, List.replicate_zero, List.cons_append, List.nil_append, Nat.reduceAdd, Nat.reduceSub, List.map_cons, List.map_nil, putT, List.set_cons_zero, List.set_cons_succ]
  (repeat' (first | with_reducible (first | refine awp_seq ?_ | refine awp_region ?_ | refine awp_skip ?_ | refine awpL_nil ?_ | refine thenA_normal ?_) | (refine awp_cond _ rfl (fun h => ?_) (fun h => ?_) <;> first | (exact absurd h (by decide)) | ((try (simp only [] at h)); skip)) | ((apply awpL_evl2 rfl); (case h => ((first | (apply Evl_k 0 rfl; (exact Evl_mv _ rfl)) | (apply Evl_x; (case hs => (intro _ _ h; cases h)); (case hx => rfl); (case hrun => (intro w; simp [wtb, AV.val, go_sem]; skip; rfl)))))); (case hT => ((try simp only [wtn]); rfl))) | fail))
  exact endA_normal _ _ (Res0 rfl (Weak.mk' [] _ (List.Perm.refl _) (VwHs.refl _ _) VwL.nil)) rfl
end Go.Proofs.YtkhhlmonhapmaaaGreatDoor
namespace Go.Proofs.YtkhhlmonhapmaaaGreatDoor
open Go.RowKit
def ByteTest (f : Nat) (p : UInt8 → Bool) : Prop := ∀ b : UInt8, Spec Tryz.prog f [] [.x (.int .u8 (b.toNat : Nat))] (fun r H' => r = .x (.bool (p b)) ∧ H' = [])
def hexI (b : UInt8) : Int := match hexv b with | some n => (n : Int) | none => -1
theorem hexI_some {b : UInt8} {n : Nat} (h : hexv b = some n) : hexI b = n := by unfold hexI; rw [h]
theorem hexI_none {b : UInt8} (h : hexv b = none) : hexI b = -1 := by unfold hexI; rw [h]
set_option maxRecDepth 100000 in
set_option maxHeartbeats 8000000 in
theorem isLetter_s : ByteTest 116 isLet := by
  intro b
  refine Spec_of Tryz.func116 rfl ?_
  simp only [Tryz.ntmps116, List.length_cons, List.length_nil, List.replicate_succ, List.replicate_zero, List.cons_append, List.nil_append, Nat.reduceAdd, Nat.reduceSub]
  (repeat' (first | with_reducible (first | refine awp_seq ?_ | refine awp_region ?_ | refine awp_ret ?_ | refine awpL_nil ?_ | refine thenA_normal ?_) | ((first | apply awpL_evl2 rfl | apply awpL_g2 _ _ rfl rfl rfl); (case h => ((try (intro (hp : (_ : Bool) = true); ((try simp only [Bool.and_eq_true, Bool.not_eq_true'] at hp); (try simp only [hp, wte]); (try simp only [whn] at hp)))); (first | (apply Evl_k 0 rfl; (first | exact Evl_mv _ rfl | exact Evl_as _ rfl)) | (apply Evl_k 1 rfl; (first | exact Evl_and _ _ _ _ _ rfl rfl rfl rfl | exact Evl_or _ _ _ _ _ rfl rfl rfl rfl | exact Evl_and' _ _ _ _ _ rfl rfl rfl rfl)) | (apply Evl_x; (case hs => (intro _ _ h; cases h)); (case hx => rfl); (case hrun => (intro w; simp [wtb, AV.val, go_sem]; skip; rfl)))))); (case hT => ((try simp only [wtn]); rfl))) | fail))
  refine endA_ret _ _ (Res1 rfl (RV.tmp _) (Weak.mk' [] _ (List.Perm.refl _) (VwHs.refl _ _) (VwL.refl _ _))) ?_
  refine ⟨?_, rfl⟩
  simp only [ev, List.getD_cons_succ, List.getD_cons_zero]
  congr 2
  rw [Bool.eq_iff_iff]
  unfold isLet
  simp only [Bool.and_eq_true, Bool.or_eq_true, decide_eq_true_eq, beq_iff_eq]
  omega
set_option maxRecDepth 100000 in
set_option maxHeartbeats 8000000 in
theorem isDigit_s : ByteTest 119 isDig := by
  intro b
  refine Spec_of Tryz.func119 rfl ?_
  simp only [Tryz.ntmps119, List.length_cons, List.length_nil, List.replicate_succ, List.replicate_zero, List.cons_append, List.nil_append, Nat.reduceAdd, Nat.reduceSub]
  (repeat' (first | with_reducible (first | refine awp_seq ?_ | refine awp_region ?_ | refine awp_ret ?_ | refine awpL_nil ?_ | refine thenA_normal ?_) | ((first | apply awpL_evl2 rfl | apply awpL_g2 _ _ rfl rfl rfl); (case h => ((try (intro (hp : (_ : Bool) = true); ((try simp only [hp]); (try simp only [whn] at hp)))); (first | (apply Evl_k 0 rfl; (first | exact Evl_mv _ rfl | exact Evl_as _ rfl)) | (apply Evl_k 1 rfl; (exact Evl_and _ _ _ _ _ rfl rfl rfl rfl)) | (apply Evl_x; (case hs => (intro _ _ h; cases h)); (case hx => rfl); (case hrun => (intro w; simp [wtb, AV.val, go_sem]; skip; rfl)))))); (case hT => ((try simp only [wtn]); rfl))) | fail))
  refine endA_ret _ _ (Res1 rfl (RV.tmp _) (Weak.mk' [] _ (List.Perm.refl _) (VwHs.refl _ _) (VwL.refl _ _))) ?_
  refine ⟨?_, rfl⟩
  simp only [ev, List.getD_cons_succ, List.getD_cons_zero]
  congr 2
  rw [Bool.eq_iff_iff]
  unfold isDig
  simp only [Bool.and_eq_true, decide_eq_true_eq]
  omega
set_option maxRecDepth 100000 in
set_option maxHeartbeats 8000000 in
theorem isWord_s : ByteTest 118 isWrd := by
  intro b
  refine Spec_of Tryz.func118 rfl ?_
  simp only [Tryz.ntmps118, List.length_cons, List.length_nil, List.replicate_succ, List.replicate_zero, List.cons_append, List.nil_append, Nat.reduceAdd, Nat.reduceSub]
  (repeat' (first | with_reducible (first | refine awp_seq ?_ | refine awp_region ?_ | refine awp_ret ?_ | refine awpL_nil ?_ | refine thenA_normal ?_) | ((first | apply awpL_evl2 rfl | apply awpL_g2 _ _ rfl rfl rfl); (case h => ((try (intro (hp : (_ : Bool) = true); ((try simp only [Bool.not_eq_true'] at hp); (try simp only [hp, wte]); (try simp only [whn] at hp)))); (first | (apply Evl_k 0 rfl; (first | exact Evl_mv _ rfl | exact Evl_as _ rfl)) | (apply Evl_k 1 rfl; (exact Evl_or _ _ _ _ _ rfl rfl rfl rfl)) | (apply Evl_k 11 rfl; (first | exact Evl_call 116 Tryz.f116 _ _ rfl rfl Tryz.func116 (by decide) rfl (VwL.refl _ _) (isLetter_s b) | exact Evl_call 119 Tryz.f119 _ _ rfl rfl Tryz.func119 (by decide) rfl (VwL.refl _ _) (isDigit_s b))) | (apply Evl_x; (case hs => (intro _ _ h; cases h)); (case hx => rfl); (case hrun => (intro w; simp [wtb, AV.val, go_sem]; skip; rfl)))))); (case hT => ((try simp only [wtn]); rfl))) | fail))
  refine endA_ret _ _ (Res1 rfl (RV.tmp _) (Weak.mk' [] _ (List.Perm.refl _) (VwHs.refl _ _) (VwL.refl _ _))) ?_
  refine ⟨?_, rfl⟩
  simp only [ev, List.getD_cons_succ, List.getD_cons_zero]
  congr 2
  rw [Bool.eq_iff_iff]
  unfold isWrd
  simp only [Bool.or_eq_true, decide_eq_true_eq, beq_iff_eq]
  rcases Bool.eq_false_or_eq_true (isLet b) with h1 | h1 <;> rcases Bool.eq_false_or_eq_true (isDig b) with h2 | h2 <;> simp [h1, h2] <;> omega
set_option maxRecDepth 100000 in
set_option maxHeartbeats 8000000 in
theorem hex_s (b : UInt8) : Spec Tryz.prog 147 [] [.x (.int .u8 (b.toNat : Nat))] (fun r H' => r = .x (.int .i64 (hexI b)) ∧ H' = []) := by
  have hb := b.toNat_lt
  refine Spec_of Tryz.func147 rfl ?_
  simp only [Tryz.ntmps147, List.length_cons, List.length_nil, List.replicate_succ, List.replicate_zero, List.cons_append, List.nil_append, Nat.reduceAdd, Nat.reduceSub]
  (repeat' (first | with_reducible (first | refine awp_seq ?_ | refine awp_region ?_ | refine awp_block ?_ | refine awp_ret ?_ | refine awp_skip ?_ | refine awpL_nil ?_ | refine thenA_normal ?_ | refine thenA_ret ?_ | refine inBlockA_normal ?_ | refine inBlockA_ret ?_) | (refine awp_cond _ rfl (fun h => ?_) (fun h => ?_) <;> ((try (simp only [whn] at h)); skip)) | ((first | apply awpL_evl2 rfl | apply awpL_g2 _ _ rfl rfl rfl); (case h => ((try (intro (hp : (_ : Bool) = true); ((try simp only [hp]); (try simp only [whn] at hp)))); (first | (apply Evl_k 0 rfl; (first | exact Evl_mv _ rfl | exact Evl_as _ rfl)) | (apply Evl_k 1 rfl; (exact Evl_and _ _ _ _ _ rfl rfl rfl rfl)) | (apply Evl_x; (case hs => (intro _ _ h; cases h)); (case hx => rfl); (case hrun => (intro w; simp [wtb, AV.val, go_sem]; (try go_bits); rfl)))))); (case hT => ((try simp only [wtn]); rfl))) | fail))
  all_goals
    refine endA_ret _ _ (Res1 rfl (RV.tmp _) (Weak.mk' [] _ (List.Perm.refl _) (VwHs.refl _ _) (VwL.refl _ _))) ?_
    refine ⟨?_, rfl⟩
    simp only [ev, List.getD_cons_succ, List.getD_cons_zero]
    congr 2
    unfold hexI hexv
    first
      | (rw [if_pos (by omega)]; simp only; omega)
      | (rw [if_neg (by omega), if_pos (by omega)]; simp only; omega)
      | (rw [if_neg (by omega), if_neg (by omega), if_pos (by omega)]; simp only; omega)
      | (rw [if_neg (by omega), if_neg (by omega), if_neg (by omega)])
end Go.Proofs.YtkhhlmonhapmaaaGreatDoor
namespace Go.Proofs.YtkhhlmonhapmaaaGreatDoor
open Go.RowKit
def escR (l : List UInt8) : UInt8 × Nat := match escd l with | some x => x | none => (0, 0)
theorem escR_some {l : List UInt8} {x : UInt8 × Nat} (h : escd l = some x) : escR l = x := by unfold escR; rw [h]
theorem escR_none {l : List UInt8} (h : escd l = none) : escR l = (0, 0) := by unfold escR; rw [h]
theorem or4 {p q : Nat} (hp : p < 16) (hq : q < 16) : bits BinOp.or IntKind.i64 ((p : Int) * 16) (q : Int) % 256 = ((UInt8.ofNat (16 * p + q)).toNat : Int) := by
  have e : ((p : Int) * 16) = ((p * 16 : Nat) : Int) := by simp
  rw [e]
  have e2 : bits BinOp.or IntKind.i64 ((p * 16 : Nat) : Int) (q : Int) = ((16 * p + q : Nat) : Int) := by
    show IntKind.i64.wrap (((BitVec.ofInt 64 ((p * 16 : Nat) : Int) ||| BitVec.ofInt 64 (q : Int)).toNat : Nat) : Int) = _
    rw [BitVec.ofInt_natCast, BitVec.ofInt_natCast, BitVec.toNat_or, BitVec.toNat_ofNat, BitVec.toNat_ofNat, Nat.mod_eq_of_lt (by omega), Nat.mod_eq_of_lt (by omega), Nat.mul_comm, ← Nat.two_pow_add_eq_or_of_lt (i := 4) (by omega)]
    simp [IntKind.wrap, IntKind.signed, IntKind.bits]
    omega
  rw [e2, UInt8.toNat_ofNat']
  omega
set_option maxRecDepth 100000 in
set_option maxHeartbeats 8000000 in
theorem escaped_nil : Spec Tryz.prog 135 [] [.x (.string (bs []))] (fun r H' => r = .tup [.x (.int .u8 0), .x (.int .i64 0)] ∧ H' = []) := by
  refine Spec_of Tryz.func135 rfl ?_
  simp only [Tryz.ntmps135, List.length_cons, List.length_nil, List.replicate_succ, List.replicate_zero, List.cons_append, List.nil_append, Nat.reduceAdd, Nat.reduceSub]
  (repeat' (first | with_reducible (first | refine awp_seq ?_ | refine awp_region ?_ | refine awp_ret ?_ | refine awpL_nil ?_ | refine thenA_normal ?_ | refine thenA_ret ?_) | (refine awp_cond _ rfl (fun h => ?_) (fun h => ?_) <;> first | (exact absurd h (by decide)) | ((try (simp only [] at h)); skip)) | ((apply awpL_evl2 rfl); (case h => ((first | (apply Evl_k 0 rfl; (first | exact Evl_mv _ rfl | exact Evl_as _ rfl)) | (apply Evl_x; (case hs => (intro _ _ h; cases h)); (case hx => rfl); (case hrun => (intro w; simp [wtb, AV.val, go_sem]; skip; rfl)))))); (case hT => ((try simp only [wtn]); rfl))) | fail))
  exact endA_ret _ _ (Res2 rfl (RV.tmp _) (RV.tmp _) (Weak.mk' [] [] (List.Perm.refl _) VwHs.nil (VwL.refl _ _))) ⟨rfl, rfl⟩
set_option maxRecDepth 100000 in
set_option maxHeartbeats 8000000 in
theorem escaped_cons (c : UInt8) (r : List UInt8) (hl : r.length ≤ 1000000) : Spec Tryz.prog 135 [] [.x (.string (bs (c :: r)))] (fun q H' => q = .tup [.x (.int .u8 ((escR (c :: r)).1.toNat : Nat)), .x (.int .i64 ((escR (c :: r)).2 : Nat))] ∧ H' = []) := by
  refine Spec_of Tryz.func135 rfl ?_
  simp only [Tryz.ntmps135, List.length_cons, List.length_nil, List.replicate_succ, List.replicate_zero, List.cons_append, List.nil_append, Nat.reduceAdd, Nat.reduceSub]
  (repeat' (first | with_reducible (first | refine awp_seq ?_ | refine awp_region ?_ | refine awp_block ?_ | refine awp_ret ?_ | refine awp_skip ?_ | refine awpL_nil ?_ | refine thenA_normal ?_ | refine thenA_ret ?_ | refine inBlockA_normal ?_ | refine inBlockA_ret ?_) | (refine awp_cond _ rfl (fun h => ?_) (fun h => ?_) <;> first | (exact absurd h (by decide)) | ((try (simp only [whn] at h)); first | (exfalso; omega; done) | skip)) | ((apply awpL_evl2 rfl); (case h => ((first | (apply Evl_k 0 rfl; (first | exact Evl_mv _ rfl | exact Evl_as _ rfl)) | (apply Evl_k 8 rfl; (exact Evl_index_str _ _ _ _ _ 0 _ rfl rfl rfl (by kernel_rfl) rfl (by simp; first | done | fail))) | (apply Evl_x; (case hs => (intro _ _ h; cases h)); (case hx => rfl); (case hrun => (intro w; simp [wtb, AV.val, go_sem]; skip; rfl)))))); (case hT => ((try simp only [wtn]); rfl))) | fail))
  case hK.hK.hK.hK.refine_2.hK.hK.hK.hK.refine_2.hK.hK.refine_2.hK.hK.refine_2.hK.hK.refine_2.hK.hK.refine_1.hK.hK.hK.refine_2 =>
    obtain ⟨a, b, r', rfl⟩ : ∃ a b r', r = a :: b :: r' := by
      match r, h with
      | [], h => simp at h
      | [a], h => simp at h
      | a :: b :: r', _ => exact ⟨a, b, r', rfl⟩
    refine awp_drawnA mixed ?_
    (apply awpA_take 0 rfl rfl (by kernel_rfl) (by intro c T H hp; simp [thenA, inBlockA, jumpA, endA] at hp); (case h => (first | exact WInd_mv _ rfl | fail)); (apply awpA_cong; (case hT => ((try simp only [wtn]); rfl)); (case hH => rfl)))
    (apply awpA_take 1 rfl rfl (by kernel_rfl) (by intro c T H hp; simp [thenA, inBlockA, jumpA, endA] at hp); (case h => exact WInd_index_str _ _ _ _ _ 1 _ rfl rfl rfl (by kernel_rfl) rfl (by simp; first | done | fail)); (apply awpA_cong; (case hT => ((try simp only [wtn]); rfl)); (case hH => rfl)))
    (apply awpA_take 3 rfl rfl (by kernel_rfl) (by intro c T H hp; simp [thenA, inBlockA, jumpA, endA] at hp); (case h => (first | exact WInd_mv _ rfl | fail)); (apply awpA_cong; (case hT => ((try simp only [wtn]); rfl)); (case hH => rfl)))
    (apply awpA_take 4 rfl rfl (by kernel_rfl) (by intro c T H hp; simp [thenA, inBlockA, jumpA, endA] at hp); (case h => exact WInd_index_str _ _ _ _ _ 2 _ rfl rfl rfl (by kernel_rfl) rfl (by simp; first | done | fail)); (apply awpA_cong; (case hT => ((try simp only [wtn]); rfl)); (case hH => rfl)))
    (refine awpA_1 2 (by decide +kernel) rfl rfl ?_; (first | (apply Stp_evl; (case h => ((apply Evl_k 11 rfl; (exact Evl_call 147 Tryz.f147 _ _ rfl rfl Tryz.func147 (by decide) rfl (VwL.refl _ _) (hex_s a))))); (apply awpA_cong; (case hT => ((try simp only [wtn]); rfl)); (case hH => rfl))) | fail))
    (refine awpA_1 5 (by decide +kernel) rfl rfl ?_; (first | (apply Stp_evl; (case h => ((apply Evl_k 11 rfl; (exact Evl_call 147 Tryz.f147 _ _ rfl rfl Tryz.func147 (by decide) rfl (VwL.refl _ _) (hex_s b))))); (apply awpA_cong; (case hT => ((try simp only [wtn]); rfl)); (case hH => rfl))) | fail))
    (refine awpA_1 6 (by decide +kernel) rfl rfl ?_; (first | (apply Stp_evl; (case h => ((apply Evl_k 0 rfl; (exact Evl_as _ rfl)))); (apply awpA_cong; (case hT => ((try simp only [wtn]); rfl)); (case hH => rfl))) | fail))
    (refine awpA_1 7 (by decide +kernel) rfl rfl ?_; (first | (apply Stp_evl; (case h => ((apply Evl_k 0 rfl; (exact Evl_as _ rfl)))); (apply awpA_cong; (case hT => ((try simp only [wtn]); rfl)); (case hH => rfl))) | fail))
    refine awpA_done (by decide +kernel) ?_
    cases ha : hexv a with
    | none =>
      have e1 := hexI_none ha
      simp only [e1]
      (repeat' (first | with_reducible (first | refine awp_seq ?_ | refine awp_region ?_ | refine awp_ret ?_ | refine awpL_nil ?_ | refine thenA_normal ?_ | refine thenA_ret ?_ | refine inBlockA_ret ?_) | (refine awp_cond _ rfl (fun h => ?_) (fun h => ?_) <;> first | (exact absurd h (by decide)) | ((try (simp only [] at h)); skip)) | ((apply awpL_gf rfl rfl rfl); (case hT => ((try simp only [wtn]); rfl))) | ((apply awpL_evl2 rfl); (case h => ((first | (apply Evl_k 0 rfl; (first | exact Evl_mv _ rfl | exact Evl_as _ rfl)) | (apply Evl_k 1 rfl; (exact Evl_pickt _ _ _ rfl rfl)) | (apply Evl_x; (case hs => (intro _ _ h; cases h)); (case hx => rfl); (case hrun => (intro w; simp [wtb, AV.val, go_sem]; skip; rfl)))))); (case hT => ((try simp only [wtn]); rfl))) | fail))
      have e : escR (c :: a :: b :: r') = (0, 0) := escR_none (by rw [escd_x c a b r' (by omega), ha]; rfl)
      rw [e]
      exact endA_ret _ _ (Res2 rfl (RV.tmp _) (RV.tmp _) (Weak.mk' [] [] (List.Perm.refl _) VwHs.nil (VwL.refl _ _))) ⟨rfl, rfl⟩
    | some p =>
      have e1 := hexI_some ha
      have hp := hexv_lt ha
      cases hb : hexv b with
      | none =>
        have e2 := hexI_none hb
        simp only [e1, e2]
        (repeat' (first | with_reducible (first | refine awp_seq ?_ | refine awp_region ?_ | refine awp_ret ?_ | refine awpL_nil ?_ | refine thenA_normal ?_ | refine thenA_ret ?_ | refine inBlockA_ret ?_) | (refine awp_cond _ rfl (fun h => ?_) (fun h => ?_) <;> first | (exact absurd h (by decide)) | ((try (simp only [] at h)); skip)) | ((first | apply awpL_evl2 rfl | apply awpL_g2 _ _ rfl rfl rfl); (case h => ((try (intro (hp : (_ : Bool) = true); ((try simp only [Bool.not_eq_true'] at hp); (try simp only [hp, wte]); (try simp only [whn] at hp)))); (first | (apply Evl_k 0 rfl; (first | exact Evl_mv _ rfl | exact Evl_as _ rfl)) | (apply Evl_k 1 rfl; (exact Evl_pickf _ _ _ rfl rfl)) | (apply Evl_x; (case hs => (intro _ _ h; cases h)); (case hx => rfl); (case hrun => (intro w; simp [wtb, AV.val, go_sem]; skip; rfl)))))); (case hT => ((try simp only [wtn]); rfl))) | fail))
        have e : escR (c :: a :: b :: r') = (0, 0) := escR_none (by rw [escd_x c a b r' (by omega), ha, hb]; rfl)
        rw [e]
        exact endA_ret _ _ (Res2 rfl (RV.tmp _) (RV.tmp _) (Weak.mk' [] [] (List.Perm.refl _) VwHs.nil (VwL.refl _ _))) ⟨rfl, rfl⟩
      | some q =>
        have e2 := hexI_some hb
        have hq := hexv_lt hb
        simp only [e1, e2]
        (repeat' (first | with_reducible (first | refine awp_seq ?_ | refine awp_region ?_ | refine awp_ret ?_ | refine awp_skip ?_ | refine awpL_nil ?_ | refine thenA_normal ?_ | refine thenA_ret ?_ | refine inBlockA_ret ?_) | (refine awp_cond _ rfl (fun h => ?_) (fun h => ?_) <;> ((try (simp only [whn] at h)); first | (exfalso; omega; done) | skip)) | ((first | apply awpL_evl2 rfl | apply awpL_g2 _ _ rfl rfl rfl); (case h => ((try (intro (hp : (_ : Bool) = true); ((try simp only [Bool.not_eq_true'] at hp); (try simp only [hp, wte]); (try simp only [whn] at hp)))); (first | (apply Evl_k 0 rfl; (first | exact Evl_mv _ rfl | exact Evl_as _ rfl)) | (apply Evl_k 1 rfl; (exact Evl_pickf _ _ _ rfl rfl)) | (apply Evl_x; (case hs => (intro _ _ h; cases h)); (case hx => rfl); (case hrun => (intro w; simp [wtb, AV.val, go_sem]; (try go_bits); rfl)))))); (case hT => ((try simp only [wtn]); rfl))) | fail))
        have e : escR (c :: a :: b :: r') = (UInt8.ofNat (16 * p + q), 3) := escR_some (by rw [escd_x c a b r' (by omega), ha, hb]; rfl)
        have e4 := or4 hp hq
        rw [e, ← e4]
        exact endA_ret _ _ (Res2 rfl (RV.tmp _) (RV.tmp _) (Weak.mk' [] [] (List.Perm.refl _) VwHs.nil (VwL.refl _ _))) ⟨rfl, rfl⟩
  all_goals first
    | (rw [escR_some (escd_mark c r (by omega))]; exact endA_ret _ _ (Res2 rfl (RV.tmp _) (RV.tmp _) (Weak.mk' [] [] (List.Perm.refl _) VwHs.nil (VwL.refl _ _))) ⟨rfl, rfl⟩)
    | (rw [escR_some (escd_n c r (by omega))]; exact endA_ret _ _ (Res2 rfl (RV.tmp _) (RV.tmp _) (Weak.mk' [] [] (List.Perm.refl _) VwHs.nil (VwL.refl _ _))) ⟨rfl, rfl⟩)
    | (rw [escR_some (escd_t c r (by omega))]; exact endA_ret _ _ (Res2 rfl (RV.tmp _) (RV.tmp _) (Weak.mk' [] [] (List.Perm.refl _) VwHs.nil (VwL.refl _ _))) ⟨rfl, rfl⟩)
    | (have e : escR (c :: r) = (0, 0) := by
         match r, h with
         | [], _ => exact escR_none (escd_x0 c (by omega))
         | [a], _ => exact escR_none (escd_x1 c a (by omega))
         | a :: b :: r', h => simp at h; omega
       rw [e]; exact endA_ret _ _ (Res2 rfl (RV.tmp _) (RV.tmp _) (Weak.mk' [] [] (List.Perm.refl _) VwHs.nil (VwL.refl _ _))) ⟨rfl, rfl⟩)
    | (rw [escR_none (escd_no c r (by omega))]; exact endA_ret _ _ (Res2 rfl (RV.tmp _) (RV.tmp _) (Weak.mk' [] [] (List.Perm.refl _) VwHs.nil (VwL.refl _ _))) ⟨rfl, rfl⟩)
    | trace_state
theorem escaped_s (l : List UInt8) (hl : l.length ≤ 1000000) : Spec Tryz.prog 135 [] [.x (.string (bs l))] (fun q H' => q = .tup [.x (.int .u8 ((escR l).1.toNat : Nat)), .x (.int .i64 ((escR l).2 : Nat))] ∧ H' = []) := by
  cases l with
  | nil => exact escaped_nil
  | cons c r => exact escaped_cons c r (by simp at hl; omega)
end Go.Proofs.YtkhhlmonhapmaaaGreatDoor
namespace Go.Proofs.YtkhhlmonhapmaaaGreatDoor
open Go.RowKit
theorem drop_get (l : List UInt8) (k : Nat) (h : k < l.length) : l.drop k = l.getD k 0 :: l.drop (k + 1) := by
  rw [List.drop_eq_getElem_cons h, getD_at l k 0 h]
set_option maxRecDepth 100000 in
set_option maxHeartbeats 8000000 in
theorem span_s (f : Nat) (fn : Func) (p : UInt8 → Bool) (hf : Tryz.prog.funcs[f]? = some fn) (hnn : fn.name ≠ "runtime.NumGoroutine") (hb : fn.body.isSome = true) (ht : ByteTest f p) (l : List UInt8) (hl : l.length ≤ 1000000) : Spec Tryz.prog 117 [] [.x (.string (bs l)), .x (.func (.func f) #[] #[])] (fun r H' => r = .x (.int .i64 (spn p l : Nat)) ∧ H' = []) := by
  refine Spec_of Tryz.func117 rfl ?_
  simp only [Tryz.ntmps117, List.length_cons, List.length_nil, List.replicate_succ, List.replicate_zero, List.cons_append, List.nil_append, Nat.reduceAdd, Nat.reduceSub]
  (repeat' (first | with_reducible (first | refine awp_seq ?_ | refine awp_region ?_ | refine awp_block ?_ | refine awpL_nil ?_ | refine thenA_normal ?_) | ((apply awpL_evl2 rfl); (case h => (((apply Evl_k 0 rfl; (exact Evl_as _ rfl))))); (case hT => ((try simp only [wtn]); rfl))) | fail))
  refine awp_loopS (S := Nat) (fun k => frm 20 [(0, .x (.string (bs l))), (1, .x (.func (.func f) #[] #[])), (5, .x (.int .i64 k))]) (fun _ => []) (fun k => k ≤ l.length ∧ spn p l = k + spn p (l.drop k)) (fun k => l.length - k) 0 (Weak.mk' [] _ (List.Perm.refl _) (VwHs.refl _ _) (by (repeat' (first | exact VwL.nil | (refine VwL.cons ?_ ?_) | exact Vw.refl _ | exact Vw.top _ | fail)))) ⟨Nat.zero_le _, by simp⟩ fun k hk => ?_
  obtain ⟨h1, h2⟩ := hk
  have h2' := Lib.hid h2
  clear h2
  simp only [frm, List.replicate_succ, List.replicate_zero, List.foldl_cons, List.foldl_nil, List.set_cons_zero, List.set_cons_succ]
  by_cases hk : k < l.length
  · have hd := Lib.hid (drop_get l k hk)
    have htb := ht (l.getD k 0)
    cases hc : p (l.getD k 0) with
    | true =>
      rw [hc] at htb
      (repeat' (first | with_reducible (first | refine awp_seq ?_ | refine awp_region ?_ | refine awp_block ?_ | refine awp_skip ?_ | refine awpL_nil ?_ | refine thenA_normal ?_ | refine inBlockA_normal ?_) | (refine awp_cond _ rfl (fun h => ?_) (fun h => ?_) <;> ((try (simp only [whn] at h)); first | (exfalso; omega; done) | skip)) | ((first | apply awpL_evl2 rfl | apply awpL_g2 _ _ rfl rfl rfl); (case h => ((try (intro (hp : (_ : Bool) = true); ((try simp only [hp]); (try simp only [whn] at hp)))); (first | (apply Evl_k 0 rfl; (first | exact Evl_mv _ rfl | exact Evl_as _ rfl)) | (apply Evl_k 1 rfl; (exact Evl_and _ _ _ _ _ rfl rfl rfl rfl)) | (apply Evl_k 8 rfl; (exact Evl_index_str _ _ _ _ _ _ _ rfl rfl rfl (by kernel_rfl) rfl (by omega))) | (apply Evl_k 11 rfl; (exact Evl_call f fn _ _ rfl rfl hf hnn hb (VwL.refl _ _) htb)) | (apply Evl_x; (case hs => (intro _ _ h; cases h)); (case hx => rfl); (case hrun => (intro w; simp [wtb, AV.val, go_sem]; (try go_bits); rfl)))))); (case hT => ((try simp only [wtn]); rfl))) | fail))
      refine ⟨k + 1, by omega, ⟨by omega, ?_⟩, (Weak.mk' [] _ (List.Perm.refl _) (VwHs.refl _ _) (by (repeat' (first | exact VwL.nil | (refine VwL.cons ?_ ?_) | exact Vw.refl _ | exact Vw.top _ | fail))))⟩
      rw [h2'.out, hd.out, spn_yes _ _ _ hc]; omega
    | false =>
      rw [hc] at htb
      (repeat' (first | with_reducible (first | refine awp_seq ?_ | refine awp_region ?_ | refine awp_ret ?_ | refine awp_exit ?_ | refine awpL_nil ?_ | refine thenA_normal ?_ | refine thenA_exit ?_ | refine inBlockA_eq ?_) | (refine awp_cond _ rfl (fun h => ?_) (fun h => ?_) <;> first | (exact absurd h (by decide)) | ((try (simp only [] at h)); skip)) | ((first | apply awpL_evl2 rfl | apply awpL_g2 _ _ rfl rfl rfl); (case h => ((try (intro (hp : (_ : Bool) = true); ((try simp only [hp]); (try simp only [whn] at hp)))); (first | (apply Evl_k 0 rfl; (first | exact Evl_mv _ rfl | exact Evl_as _ rfl)) | (apply Evl_k 1 rfl; (exact Evl_and _ _ _ _ _ rfl rfl rfl rfl)) | (apply Evl_k 8 rfl; (exact Evl_index_str _ _ _ _ _ _ _ rfl rfl rfl (by kernel_rfl) rfl (by omega))) | (apply Evl_k 11 rfl; (exact Evl_call f fn _ _ rfl rfl hf hnn hb (VwL.refl _ _) htb)) | (apply Evl_x; (case hs => (intro _ _ h; cases h)); (case hx => rfl); (case hrun => (intro w; simp [wtb, AV.val, go_sem]; skip; rfl)))))); (case hT => ((try simp only [wtn]); rfl))) | fail))
      refine endA_ret _ _ (Res1 rfl (RV.tmp _) (Weak.mk' [] _ (List.Perm.refl _) (VwHs.refl _ _) (VwL.refl _ _))) ?_
      refine ⟨?_, rfl⟩
      rw [h2'.out, hd.out, spn_no _ _ _ hc]; rfl
  · have htb := ht 0
    (repeat' (first | with_reducible (first | refine awp_seq ?_ | refine awp_region ?_ | refine awp_ret ?_ | refine awp_exit ?_ | refine awpL_nil ?_ | refine thenA_normal ?_ | refine thenA_exit ?_ | refine inBlockA_eq ?_) | (refine awp_cond _ rfl (fun h => ?_) (fun h => ?_) <;> first | (exact absurd h (by decide)) | ((try (simp only [] at h)); skip)) | ((first | apply awpL_evl2 rfl | apply awpL_g2 _ _ rfl rfl rfl); (case h => ((try (intro (hp : (_ : Bool) = true); ((try simp only [hp]); (try simp only [whn] at hp)))); (first | (apply Evl_k 0 rfl; (first | exact Evl_mv _ rfl | exact Evl_as _ rfl)) | (apply Evl_k 1 rfl; (exact Evl_and _ _ _ _ _ rfl rfl rfl rfl)) | (apply Evl_k 8 rfl; (exact Evl_index_str _ _ _ _ _ _ _ rfl rfl rfl (by kernel_rfl) rfl (by omega))) | (apply Evl_k 11 rfl; (exact Evl_call f fn _ (.x (.bool false)) rfl rfl hf hnn hb (VwL.refl _ _) (by exfalso; omega))) | (apply Evl_x; (case hs => (intro _ _ h; cases h)); (case hx => rfl); (case hrun => (intro w; simp [wtb, AV.val, go_sem]; skip; rfl)))))); (case hT => ((try simp only [wtn]); rfl))) | fail))
    refine endA_ret _ _ (Res1 rfl (RV.tmp _) (Weak.mk' [] _ (List.Perm.refl _) (VwHs.refl _ _) (VwL.refl _ _))) ?_
    refine ⟨?_, rfl⟩
    have e : l.drop k = [] := List.drop_eq_nil_of_le (by omega)
    rw [h2'.out, e]; rfl
def scc (t : List UInt8) (at_ line col : Int) : List AV := [.x (.string (bs t)), .x (.int .i64 at_), .x (.int .i64 line), .x (.int .i64 col)]
set_option maxRecDepth 100000 in
set_option maxHeartbeats 8000000 in
theorem advance_s (b : Nat) (t : List UInt8) (i line col : Int) (n : Nat) (hi : 0 ≤ i ∧ i ≤ 1000000) (hc : 0 ≤ col ∧ col ≤ 1000000) (hn : n ≤ 1000000) : Spec Tryz.prog 76 [.box b (scc t i line col)] [.x (.pointer (some ⟨b, 0, none⟩)), .x (.int .i64 n)] (fun r H' => H' = [.box b (scc t (i + n) line (col + n))]) := by
  unfold scc
  refine Spec_of Tryz.func76 rfl ?_
  simp only [Tryz.ntmps76, List.length_cons, List.length_nil, List.replicate_succ, List.replicate_zero, List.cons_append, List.nil_append, Nat.reduceAdd, Nat.reduceSub]
  (repeat' (first | with_reducible (first | refine awp_seq ?_ | refine awp_region ?_ | refine awpL_nil ?_ | refine thenA_normal ?_) | ((apply awpL_evl2 rfl); (case h => ((first | (apply Evl_k 0 rfl; (exact Evl_mv _ rfl)) | (apply Evl_k 4 rfl; (exact Evl_nil _ rfl (by first | exact .inl ⟨_, rfl⟩ | fail))) | (apply Evl_k 5 rfl; (exact Evl_field_x _ _ _ _ _ _ rfl rfl HFld.out)) | (apply Evl_k 6 rfl; (exact Evl_load _ _ _ _ _ _ _ _ rfl rfl FBox.out HAgg.out (by first | exact Nat.le_of_ble_eq_true rfl | fail) (by first | exact Nat.le_of_ble_eq_true rfl | fail))) | (apply Evl_x; (case hs => (intro _ _ h; cases h)); (case hx => rfl); (case hrun => (intro w; simp [wtb, AV.val, go_sem]; (try go_bits); rfl)))))); (case hT => ((try simp only [wtn]); rfl))) | (refine awpL_cons rfl ?_; (((refine Stp_k 16 rfl ?_; ((refine Stp_store _ _ _ _ _ _ _ rfl rfl FBox.out HSize.out (by first | rfl | fail) (by first | exact Nat.le_of_ble_eq_true rfl | fail) ?_)))); apply awpL_cong; (case hT => ((try simp only [wtn]); rfl)); (case hH => ((try simp only [wtn]); rfl)))) | fail))
  exact endA_normal _ _ (Res0 rfl (Weak.mk' [] _ (List.Perm.refl _) (VwHs.refl _ _) (by (repeat' (first | exact VwL.nil | fail))))) rfl
end Go.Proofs.YtkhhlmonhapmaaaGreatDoor
namespace Go.Proofs.YtkhhlmonhapmaaaGreatDoor
open Go.RowKit
theorem indexByte_cmt (l : List UInt8) : (Lib.indexByte l 10 = -1 ∧ cmt l = l.length) ∨ Lib.indexByte l 10 = cmt l := by
  induction l with
  | nil => exact .inl ⟨rfl, rfl⟩
  | cons c r ih =>
    by_cases h : c.toNat = 10
    · have e : c = 10 := UInt8.toNat_inj.1 h
      subst e
      right
      rw [cmt_no _ _ h]
      rfl
    · have e : (c == 10) = false := by
        rw [beq_eq_false_iff_ne]
        intro e; subst e; exact h rfl
      rw [cmt_yes _ _ h]
      unfold Lib.indexByte
      rw [e]
      simp only [Bool.false_eq_true, if_false, List.length_cons]
      rcases ih with ⟨h1, h2⟩ | h1
      · left; simp [h1, h2]
      · right
        rw [h1]
        have : ((cmt r : Int) == -1) = false := by rw [beq_eq_false_iff_ne]; omega
        rw [this]
        simp
theorem indexByte_s (l : List UInt8) : Spec Tryz.prog 115 [] [.x (.string (bs l)), .x (.int .u8 10)] (fun r H' => r = .x (.int .i64 (Lib.indexByte l 10)) ∧ H' = []) :=
  Spec_calls (args := [.string (bs l), .int .u8 10]) (fun w => (strings_IndexByte (bs l) 10 w).mono fun e w' ⟨h1, h2⟩ => ⟨by rw [h1]; simp [bs], h2 ▸ Below.refl _ _⟩) []
end Go.Proofs.YtkhhlmonhapmaaaGreatDoor
