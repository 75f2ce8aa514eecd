import Derived.Test.YtdpobjakdplljaaGreatDoorW33
import Derived.Test.YtdpobjakdplljaaGreatDoorW8
import Derived.Test.YtdpobjakdplljaaGreatDoorW12
import Derived.Test.YtdpobjakdplljaaGreatDoorW34
/- The program's lexer: letters, digits, digits of base 16, what stands behind a mark. -/
set_option linter.unusedSimpArgs false
set_option linter.unusedVariables false
namespace Go.Proofs.YtdpobjakdplljaaGreatDoor
open Go.RowKit
def XfU (f : Nat) (p : UInt8 → Bool) : Prop := ∀ b : UInt8, Xa8 Tryz.prog f [] [.x (.int .u8 (b.toNat : Nat))] (fun r H' => r = .x (.bool (p b)) ∧ H' = [])
def Xs4 (b : UInt8) : Int := match XgP b with | some n => (n : Int) | none => -1
theorem Xjk {b : UInt8} {n : Nat} (h : XgP b = some n) : Xs4 b = n := by unfold Xs4; rw [h]
theorem XiB {b : UInt8} (h : XgP b = none) : Xs4 b = -1 := by unfold Xs4; rw [h]
set_option maxRecDepth 100000 in
set_option maxHeartbeats 8000000 in
theorem Xhu : XfU 121 Xb7 := by
 intro b
 refine XaG Tryz.func121 rfl ?_
 simp only [Tryz.ntmps121, Xu2, Xu5, Xu6, Xu7, Xva, Xu9, Nat.reduceAdd, Nat.reduceSub]
 (repeat' (first | with_reducible (first | refine Xah ?_ | refine Xac ?_ | refine Xat ?_ | refine Xae ?_ | refine Xaa ?_) | ((first | apply Xad rfl | apply Xa7 _ _ rfl rfl rfl); (case h => ((try (intro (hp : (_ : Bool) = true); ((try simp only [Bool.and_eq_true, Bool.not_eq_true'] at hp); (try simp only [hp, wte]); (try simp only [whn] at hp)))); (first | (apply Xab 0 rfl; (first | exact Xar _ rfl | exact Xao _ rfl)) | (apply Xab 1 rfl; (first | exact Xbn _ _ _ _ _ rfl rfl rfl rfl | exact Xcz _ _ _ _ _ rfl rfl rfl rfl | exact XcK _ _ _ _ _ rfl rfl rfl rfl)) | (apply XaF; (case hs => (intro _ _ h; cases h)); (case hx => rfl); (case hrun => (intro w; simp [wtb, AV.val, go_sem]; skip; rfl)))))); (case hT => ((try simp only [wtn]); rfl))) | fail))
 refine Xaf _ _ (Xbl rfl (RV.tmp _) (XaK.mk' [] _ (XuZ _) (XaE.refl _ _) (VwL.refl _ _))) ?_
 refine ⟨?_, rfl⟩
 simp only [ev, List.getD_cons_succ, List.getD_cons_zero]
 congr 2
 rw [Bool.eq_iff_iff]
 unfold Xb7
 simp only [Bool.and_eq_true, Bool.or_eq_true, decide_eq_true_eq, beq_iff_eq]
 omega
set_option maxRecDepth 100000 in
set_option maxHeartbeats 8000000 in
theorem Xgk : XfU 124 Xbk := by
 intro b
 refine XaG Tryz.func124 rfl ?_
 simp only [Tryz.ntmps124, Xu2, Xu5, Xu6, Xu7, Xva, Xu9, Nat.reduceAdd, Nat.reduceSub]
 (repeat' (first | with_reducible (first | refine Xah ?_ | refine Xac ?_ | refine Xat ?_ | refine Xae ?_ | refine Xaa ?_) | ((first | apply Xad rfl | apply Xa7 _ _ rfl rfl rfl); (case h => ((try (intro (hp : (_ : Bool) = true); ((try simp only [hp]); (try simp only [whn] at hp)))); (first | (apply Xab 0 rfl; (first | exact Xar _ rfl | exact Xao _ rfl)) | (apply Xab 1 rfl; (exact Xbn _ _ _ _ _ rfl rfl rfl rfl)) | (apply XaF; (case hs => (intro _ _ h; cases h)); (case hx => rfl); (case hrun => (intro w; simp [wtb, AV.val, go_sem]; skip; rfl)))))); (case hT => ((try simp only [wtn]); rfl))) | fail))
 refine Xaf _ _ (Xbl rfl (RV.tmp _) (XaK.mk' [] _ (XuZ _) (XaE.refl _ _) (VwL.refl _ _))) ?_
 refine ⟨?_, rfl⟩
 simp only [ev, List.getD_cons_succ, List.getD_cons_zero]
 congr 2
 rw [Bool.eq_iff_iff]
 unfold Xbk
 simp only [Bool.and_eq_true, decide_eq_true_eq]
 omega
set_option maxRecDepth 100000 in
set_option maxHeartbeats 8000000 in
theorem Xpy : XfU 123 Xcq := by
 intro b
 refine XaG Tryz.func123 rfl ?_
 simp only [Tryz.ntmps123, Xu2, Xu5, Xu6, Xu7, Xva, Xu9, Nat.reduceAdd, Nat.reduceSub]
 (repeat' (first | with_reducible (first | refine Xah ?_ | refine Xac ?_ | refine Xat ?_ | refine Xae ?_ | refine Xaa ?_) | ((first | apply Xad rfl | apply Xa7 _ _ rfl rfl rfl); (case h => ((try (intro (hp : (_ : Bool) = true); ((try simp only [Bool.not_eq_true'] at hp); (try simp only [hp, wte]); (try simp only [whn] at hp)))); (first | (apply Xab 0 rfl; (first | exact Xar _ rfl | exact Xao _ rfl)) | (apply Xab 1 rfl; (exact Xcz _ _ _ _ _ rfl rfl rfl rfl)) | (apply Xab 11 rfl; (first | exact Xaz 121 Tryz.f121 _ _ rfl rfl Tryz.func121 (by decide) rfl (VwL.refl _ _) (Xhu b) | exact Xaz 124 Tryz.f124 _ _ rfl rfl Tryz.func124 (by decide) rfl (VwL.refl _ _) (Xgk b))) | (apply XaF; (case hs => (intro _ _ h; cases h)); (case hx => rfl); (case hrun => (intro w; simp [wtb, AV.val, go_sem]; skip; rfl)))))); (case hT => ((try simp only [wtn]); rfl))) | fail))
 refine Xaf _ _ (Xbl rfl (RV.tmp _) (XaK.mk' [] _ (XuZ _) (XaE.refl _ _) (VwL.refl _ _))) ?_
 refine ⟨?_, rfl⟩
 simp only [ev, List.getD_cons_succ, List.getD_cons_zero]
 congr 2
 rw [Bool.eq_iff_iff]
 unfold Xcq
 simp only [Bool.or_eq_true, decide_eq_true_eq, beq_iff_eq]
 rcases Bool.eq_false_or_eq_true (Xb7 b) with h1 | h1 <;> rcases Bool.eq_false_or_eq_true (Xbk b) with h2 | h2 <;> simp [h1, h2] <;> omega
set_option maxRecDepth 100000 in
set_option maxHeartbeats 8000000 in
theorem Xtv (b : UInt8) : Xa8 Tryz.prog 183 [] [.x (.int .u8 (b.toNat : Nat))] (fun r H' => r = .x (.int .i64 (Xs4 b)) ∧ H' = []) := by
 have hb := b.toNat_lt
 refine XaG Tryz.func183 rfl ?_
 simp only [Tryz.ntmps183, Xu2, Xu5, Xu6, Xu7, Xva, Xu9, Nat.reduceAdd, Nat.reduceSub]
 (repeat' (first | with_reducible (first | refine Xah ?_ | refine Xac ?_ | refine Xan ?_ | refine Xat ?_ | refine Xax ?_ | refine Xae ?_ | refine Xaa ?_ | refine Xaw ?_ | refine Xag ?_ | refine Xav ?_) | (refine Xai _ rfl (fun h => ?_) (fun h => ?_) <;> ((try (simp only [whn] at h)); skip)) | ((first | apply Xad rfl | apply Xa7 _ _ rfl rfl rfl); (case h => ((try (intro (hp : (_ : Bool) = true); ((try simp only [hp]); (try simp only [whn] at hp)))); (first | (apply Xab 0 rfl; (first | exact Xar _ rfl | exact Xao _ rfl)) | (apply Xab 1 rfl; (exact Xbn _ _ _ _ _ rfl rfl rfl rfl)) | (apply XaF; (case hs => (intro _ _ h; cases h)); (case hx => rfl); (case hrun => (intro w; simp [wtb, AV.val, go_sem]; (try go_bits); rfl)))))); (case hT => ((try simp only [wtn]); rfl))) | fail))
 all_goals
  refine Xaf _ _ (Xbl rfl (RV.tmp _) (XaK.mk' [] _ (XuZ _) (XaE.refl _ _) (VwL.refl _ _))) ?_
  refine ⟨?_, rfl⟩
  simp only [ev, List.getD_cons_succ, List.getD_cons_zero]
  congr 2
  unfold Xs4 XgP
  first
   | (rw [if_pos (by omega)]; simp only; omega)
   | (rw [if_neg (by omega), if_pos (by omega)]; simp only; omega)
   | (rw [if_neg (by omega), if_neg (by omega), if_pos (by omega)]; simp only; omega)
   | (rw [if_neg (by omega), if_neg (by omega), if_neg (by omega)])
def Xjx (l : List UInt8) : UInt8 × Nat := match Xev l with | some x => x | none => (0, 0)
theorem Xd0 {l : List UInt8} {x : UInt8 × Nat} (h : Xev l = some x) : Xjx l = x := by unfold Xjx; rw [h]
theorem Xdx {l : List UInt8} (h : Xev l = none) : Xjx l = (0, 0) := by unfold Xjx; rw [h]
theorem or4 {p q : Nat} (hp : p < 16) (hq : q < 16) : bits BinOp.or IntKind.i64 ((p : Int) * 16) (q : Int) % 256 = ((UInt8.ofNat (16 * p + q)).toNat : Int) := by
 have e : ((p : Int) * 16) = ((p * 16 : Nat) : Int) := by simp
 rw [e]
 have e2 : bits BinOp.or IntKind.i64 ((p * 16 : Nat) : Int) (q : Int) = ((16 * p + q : Nat) : Int) := by
  show IntKind.i64.wrap (((BitVec.ofInt 64 ((p * 16 : Nat) : Int) ||| BitVec.ofInt 64 (q : Int)).toNat : Nat) : Int) = _
  rw [BitVec.ofInt_natCast, BitVec.ofInt_natCast, BitVec.toNat_or, BitVec.toNat_ofNat, BitVec.toNat_ofNat, Nat.mod_eq_of_lt (by omega), Nat.mod_eq_of_lt (by omega), Nat.mul_comm, ← Nat.two_pow_add_eq_or_of_lt (i := 4) (by omega)]
  simp [IntKind.wrap, IntKind.signed, IntKind.bits]
  omega
 rw [e2, UInt8.toNat_ofNat']
 omega
set_option maxRecDepth 100000 in
set_option maxHeartbeats 8000000 in
theorem XkB : Xa8 Tryz.prog 157 [] [.x (.string (bs []))] (fun r H' => r = .tup [.x (.int .u8 0), .x (.int .i64 0)] ∧ H' = []) := by
 refine XaG Tryz.func157 rfl ?_
 simp only [Tryz.ntmps157, Xu2, Xu5, Xu6, Xu7, Xva, Xu9, Nat.reduceAdd, Nat.reduceSub]
 (repeat' (first | with_reducible (first | refine Xah ?_ | refine Xac ?_ | refine Xat ?_ | refine Xae ?_ | refine Xaa ?_ | refine Xaw ?_) | (refine Xai _ rfl (fun h => ?_) (fun h => ?_) <;> first | (exact absurd h (by decide)) | ((try (simp only [] at h)); skip)) | ((apply Xad rfl); (case h => ((first | (apply Xab 0 rfl; (first | exact Xar _ rfl | exact Xao _ rfl)) | (apply XaF; (case hs => (intro _ _ h; cases h)); (case hx => rfl); (case hrun => (intro w; simp [wtb, AV.val, go_sem]; skip; rfl)))))); (case hT => ((try simp only [wtn]); rfl))) | fail))
 exact Xaf _ _ (Xc2 rfl (RV.tmp _) (RV.tmp _) (XaK.mk' [] [] (XuZ _) XaE.nil (VwL.refl _ _))) ⟨rfl, rfl⟩
set_option maxRecDepth 100000 in
set_option maxHeartbeats 8000000 in
theorem XiC (c : UInt8) (r : List UInt8) (hl : r.length ≤ 1000000) : Xa8 Tryz.prog 157 [] [.x (.string (bs (c :: r)))] (fun q H' => q = .tup [.x (.int .u8 ((Xjx (c :: r)).1.toNat : Nat)), .x (.int .i64 ((Xjx (c :: r)).2 : Nat))] ∧ H' = []) := by
 refine XaG Tryz.func157 rfl ?_
 simp only [Tryz.ntmps157, Xu2, Xu5, Xu6, Xu7, Xva, Xu9, Nat.reduceAdd, Nat.reduceSub]
 (repeat' (first | with_reducible (first | refine Xah ?_ | refine Xac ?_ | refine Xan ?_ | refine Xat ?_ | refine Xax ?_ | refine Xae ?_ | refine Xaa ?_ | refine Xaw ?_ | refine Xag ?_ | refine Xav ?_) | (refine Xai _ rfl (fun h => ?_) (fun h => ?_) <;> first | (exact absurd h (by decide)) | ((try (simp only [whn] at h)); first | (exfalso; omega; done) | skip)) | ((apply Xad rfl); (case h => ((first | (apply Xab 0 rfl; (first | exact Xar _ rfl | exact Xao _ rfl)) | (apply Xab 8 rfl; (exact XaS _ _ _ _ _ 0 _ rfl rfl rfl (by kernel_rfl) rfl (by simp; first | done | fail))) | (apply XaF; (case hs => (intro _ _ h; cases h)); (case hx => rfl); (case hrun => (intro w; simp [wtb, AV.val, go_sem]; skip; rfl)))))); (case hT => ((try simp only [wtn]); rfl))) | fail))
 case hK.hK.hK.hK.refine_2.hK.hK.hK.hK.refine_2.hK.hK.refine_2.hK.hK.refine_2.hK.hK.refine_2.hK.hK.refine_1.hK.hK.hK.refine_2 =>
  obtain ⟨a, b, r', rfl⟩ : ∃ a b r', r = a :: b :: r' := by
   match r, h with
   | [], h => simp at h
   | [a], h => simp at h
   | a :: b :: r', _ => exact ⟨a, b, r', rfl⟩
  refine XcF Xbd ?_
  (apply Xbm 0 rfl rfl (by kernel_rfl) (by intro c T H hp; simp [XaP, Xas, XaV, Xbx] at hp); (case h => (first | exact Xbh _ rfl | fail)); (apply Xay; (case hT => ((try simp only [wtn]); rfl)); (case hH => rfl)))
  (apply Xbm 1 rfl rfl (by kernel_rfl) (by intro c T H hp; simp [XaP, Xas, XaV, Xbx] at hp); (case h => exact XcL _ _ _ _ _ 1 _ rfl rfl rfl (by kernel_rfl) rfl (by simp; first | done | fail)); (apply Xay; (case hT => ((try simp only [wtn]); rfl)); (case hH => rfl)))
  (apply Xbm 3 rfl rfl (by kernel_rfl) (by intro c T H hp; simp [XaP, Xas, XaV, Xbx] at hp); (case h => (first | exact Xbh _ rfl | fail)); (apply Xay; (case hT => ((try simp only [wtn]); rfl)); (case hH => rfl)))
  (apply Xbm 4 rfl rfl (by kernel_rfl) (by intro c T H hp; simp [XaP, Xas, XaV, Xbx] at hp); (case h => exact XcL _ _ _ _ _ 2 _ rfl rfl rfl (by kernel_rfl) rfl (by simp; first | done | fail)); (apply Xay; (case hT => ((try simp only [wtn]); rfl)); (case hH => rfl)))
  (refine Xbr 2 (by decide +kernel) rfl rfl ?_; (first | (apply Xa9; (case h => ((apply Xab 11 rfl; (exact Xaz 183 Tryz.f183 _ _ rfl rfl Tryz.func183 (by decide) rfl (VwL.refl _ _) (Xtv a))))); (apply Xay; (case hT => ((try simp only [wtn]); rfl)); (case hH => rfl))) | fail))
  (refine Xbr 5 (by decide +kernel) rfl rfl ?_; (first | (apply Xa9; (case h => ((apply Xab 11 rfl; (exact Xaz 183 Tryz.f183 _ _ rfl rfl Tryz.func183 (by decide) rfl (VwL.refl _ _) (Xtv b))))); (apply Xay; (case hT => ((try simp only [wtn]); rfl)); (case hH => rfl))) | fail))
  (refine Xbr 6 (by decide +kernel) rfl rfl ?_; (first | (apply Xa9; (case h => ((apply Xab 0 rfl; (exact Xao _ rfl)))); (apply Xay; (case hT => ((try simp only [wtn]); rfl)); (case hH => rfl))) | fail))
  (refine Xbr 7 (by decide +kernel) rfl rfl ?_; (first | (apply Xa9; (case h => ((apply Xab 0 rfl; (exact Xao _ rfl)))); (apply Xay; (case hT => ((try simp only [wtn]); rfl)); (case hH => rfl))) | fail))
  refine Xa3 (by decide +kernel) ?_
  cases ha : XgP a with
  | none =>
   have e1 := XiB ha
   simp only [e1]
   (repeat' (first | with_reducible (first | refine Xah ?_ | refine Xac ?_ | refine Xat ?_ | refine Xae ?_ | refine Xaa ?_ | refine Xaw ?_ | refine Xav ?_) | (refine Xai _ rfl (fun h => ?_) (fun h => ?_) <;> first | (exact absurd h (by decide)) | ((try (simp only [] at h)); skip)) | ((apply Xdn rfl rfl rfl); (case hT => ((try simp only [wtn]); rfl))) | ((apply Xad rfl); (case h => ((first | (apply Xab 0 rfl; (first | exact Xar _ rfl | exact Xao _ rfl)) | (apply Xab 1 rfl; (exact XbG _ _ _ rfl rfl)) | (apply XaF; (case hs => (intro _ _ h; cases h)); (case hx => rfl); (case hrun => (intro w; simp [wtb, AV.val, go_sem]; skip; rfl)))))); (case hT => ((try simp only [wtn]); rfl))) | fail))
   have e : Xjx (c :: a :: b :: r') = (0, 0) := Xdx (by rw [Xf6 c a b r' (by omega), ha]; rfl)
   rw [e]
   exact Xaf _ _ (Xc2 rfl (RV.tmp _) (RV.tmp _) (XaK.mk' [] [] (XuZ _) XaE.nil (VwL.refl _ _))) ⟨rfl, rfl⟩
  | some p =>
   have e1 := Xjk ha
   have hp := Xfg ha
   cases hb : XgP b with
   | none =>
    have e2 := XiB hb
    simp only [e1, e2]
    (repeat' (first | with_reducible (first | refine Xah ?_ | refine Xac ?_ | refine Xat ?_ | refine Xae ?_ | refine Xaa ?_ | refine Xaw ?_ | refine Xav ?_) | (refine Xai _ rfl (fun h => ?_) (fun h => ?_) <;> first | (exact absurd h (by decide)) | ((try (simp only [] at h)); skip)) | ((first | apply Xad rfl | apply Xa7 _ _ rfl rfl rfl); (case h => ((try (intro (hp : (_ : Bool) = true); ((try simp only [Bool.not_eq_true'] at hp); (try simp only [hp, wte]); (try simp only [whn] at hp)))); (first | (apply Xab 0 rfl; (first | exact Xar _ rfl | exact Xao _ rfl)) | (apply Xab 1 rfl; (exact XbE _ _ _ rfl rfl)) | (apply XaF; (case hs => (intro _ _ h; cases h)); (case hx => rfl); (case hrun => (intro w; simp [wtb, AV.val, go_sem]; skip; rfl)))))); (case hT => ((try simp only [wtn]); rfl))) | fail))
    have e : Xjx (c :: a :: b :: r') = (0, 0) := Xdx (by rw [Xf6 c a b r' (by omega), ha, hb]; rfl)
    rw [e]
    exact Xaf _ _ (Xc2 rfl (RV.tmp _) (RV.tmp _) (XaK.mk' [] [] (XuZ _) XaE.nil (VwL.refl _ _))) ⟨rfl, rfl⟩
   | some q =>
    have e2 := Xjk hb
    have hq := Xfg hb
    simp only [e1, e2]
    (repeat' (first | with_reducible (first | refine Xah ?_ | refine Xac ?_ | refine Xat ?_ | refine Xax ?_ | refine Xae ?_ | refine Xaa ?_ | refine Xaw ?_ | refine Xav ?_) | (refine Xai _ rfl (fun h => ?_) (fun h => ?_) <;> ((try (simp only [whn] at h)); first | (exfalso; omega; done) | skip)) | ((first | apply Xad rfl | apply Xa7 _ _ rfl rfl rfl); (case h => ((try (intro (hp : (_ : Bool) = true); ((try simp only [Bool.not_eq_true'] at hp); (try simp only [hp, wte]); (try simp only [whn] at hp)))); (first | (apply Xab 0 rfl; (first | exact Xar _ rfl | exact Xao _ rfl)) | (apply Xab 1 rfl; (exact XbE _ _ _ rfl rfl)) | (apply XaF; (case hs => (intro _ _ h; cases h)); (case hx => rfl); (case hrun => (intro w; simp [wtb, AV.val, go_sem]; (try go_bits); rfl)))))); (case hT => ((try simp only [wtn]); rfl))) | fail))
    have e : Xjx (c :: a :: b :: r') = (UInt8.ofNat (16 * p + q), 3) := Xd0 (by rw [Xf6 c a b r' (by omega), ha, hb]; rfl)
    have e4 := or4 hp hq
    rw [e, ← e4]
    exact Xaf _ _ (Xc2 rfl (RV.tmp _) (RV.tmp _) (XaK.mk' [] [] (XuZ _) XaE.nil (VwL.refl _ _))) ⟨rfl, rfl⟩
 all_goals first
  | (rw [Xd0 (Xf4 c r (by omega))]; exact Xaf _ _ (Xc2 rfl (RV.tmp _) (RV.tmp _) (XaK.mk' [] [] (XuZ _) XaE.nil (VwL.refl _ _))) ⟨rfl, rfl⟩)
  | (rw [Xd0 (Xok c r (by omega))]; exact Xaf _ _ (Xc2 rfl (RV.tmp _) (RV.tmp _) (XaK.mk' [] [] (XuZ _) XaE.nil (VwL.refl _ _))) ⟨rfl, rfl⟩)
  | (rw [Xd0 (Xnl c r (by omega))]; exact Xaf _ _ (Xc2 rfl (RV.tmp _) (RV.tmp _) (XaK.mk' [] [] (XuZ _) XaE.nil (VwL.refl _ _))) ⟨rfl, rfl⟩)
  | (have e : Xjx (c :: r) = (0, 0) := by
        match r, h with
        | [], _ => exact Xdx (Xoo c (by omega))
        | [a], _ => exact Xdx (Xnv c a (by omega))
        | a :: b :: r', h => simp at h; omega
     rw [e]; exact Xaf _ _ (Xc2 rfl (RV.tmp _) (RV.tmp _) (XaK.mk' [] [] (XuZ _) XaE.nil (VwL.refl _ _))) ⟨rfl, rfl⟩)
  | (rw [Xdx (Xoq c r (by omega))]; exact Xaf _ _ (Xc2 rfl (RV.tmp _) (RV.tmp _) (XaK.mk' [] [] (XuZ _) XaE.nil (VwL.refl _ _))) ⟨rfl, rfl⟩)
  | trace_state
theorem Xng (l : List UInt8) (hl : l.length ≤ 1000000) : Xa8 Tryz.prog 157 [] [.x (.string (bs l))] (fun q H' => q = .tup [.x (.int .u8 ((Xjx l).1.toNat : Nat)), .x (.int .i64 ((Xjx l).2 : Nat))] ∧ H' = []) := by
 cases l with
 | nil => exact XkB
 | cons c r => exact XiC c r (by simp at hl; omega)
theorem Xh7 (l : List UInt8) (k : Nat) (h : k < l.length) : l.drop k = l.getD k 0 :: l.drop (k + 1) := by
 rw [List.drop_eq_getElem_cons h, Xez l k 0 h]
set_option maxRecDepth 100000 in
set_option maxHeartbeats 8000000 in
theorem Xrb (f : Nat) (fn : Func) (p : UInt8 → Bool) (hf : Tryz.prog.funcs[f]? = some fn) (hnn : fn.name ≠ "runtime.NumGoroutine") (hb : fn.body.isSome = true) (ht : XfU f p) (l : List UInt8) (hl : l.length ≤ 1000000) : Xa8 Tryz.prog 122 [] [.x (.string (bs l)), .x (.func (.func f) #[] #[])] (fun r H' => r = .x (.int .i64 (spn p l : Nat)) ∧ H' = []) := by
 refine XaG Tryz.func122 rfl ?_
 simp only [Tryz.ntmps122, Xu2, Xu5, Xu6, Xu7, Xva, Xu9, Nat.reduceAdd, Nat.reduceSub]
 (repeat' (first | with_reducible (first | refine Xah ?_ | refine Xac ?_ | refine Xan ?_ | refine Xae ?_ | refine Xaa ?_) | ((apply Xad rfl); (case h => (((apply Xab 0 rfl; (exact Xao _ rfl))))); (case hT => ((try simp only [wtn]); rfl))) | fail))
 refine XaT (S := Nat) (fun k => frm 20 [(0, .x (.string (bs l))), (1, .x (.func (.func f) #[] #[])), (5, .x (.int .i64 k))]) (fun _ => []) (fun k => k ≤ l.length ∧ spn p l = k + spn p (l.drop k)) (fun k => l.length - k) 0 (XaK.mk' [] _ (XuZ _) (XaE.refl _ _) (by (repeat' (first | exact VwL.nil | (refine VwL.cons ?_ ?_) | exact Vw.refl _ | exact Vw.top _ | fail)))) ⟨Nat.zero_le _, by simp⟩ fun k hk => ?_
 obtain ⟨h1, h2⟩ := hk
 have h2' := Lib.hid h2
 clear h2
 simp only [frm, Xu6, Xu7, Xu0, Xu1, Xvd, Xve]
 by_cases hk : k < l.length
 ·have hd := Lib.hid (Xh7 l k hk)
  have htb := ht (l.getD k 0)
  cases hc : p (l.getD k 0) with
  | true =>
   rw [hc] at htb
   (repeat' (first | with_reducible (first | refine Xah ?_ | refine Xac ?_ | refine Xan ?_ | refine Xax ?_ | refine Xae ?_ | refine Xaa ?_ | refine Xag ?_) | (refine Xai _ rfl (fun h => ?_) (fun h => ?_) <;> ((try (simp only [whn] at h)); first | (exfalso; omega; done) | skip)) | ((first | apply Xad rfl | apply Xa7 _ _ rfl rfl rfl); (case h => ((try (intro (hp : (_ : Bool) = true); ((try simp only [hp]); (try simp only [whn] at hp)))); (first | (apply Xab 0 rfl; (first | exact Xar _ rfl | exact Xao _ rfl)) | (apply Xab 1 rfl; (exact Xbn _ _ _ _ _ rfl rfl rfl rfl)) | (apply Xab 8 rfl; (exact XaS _ _ _ _ _ _ _ rfl rfl rfl (by kernel_rfl) rfl (by omega))) | (apply Xab 11 rfl; (exact Xaz f fn _ _ rfl rfl hf hnn hb (VwL.refl _ _) htb)) | (apply XaF; (case hs => (intro _ _ h; cases h)); (case hx => rfl); (case hrun => (intro w; simp [wtb, AV.val, go_sem]; (try go_bits); rfl)))))); (case hT => ((try simp only [wtn]); rfl))) | fail))
   refine ⟨k + 1, by omega, ⟨by omega, ?_⟩, (XaK.mk' [] _ (XuZ _) (XaE.refl _ _) (by (repeat' (first | exact VwL.nil | (refine VwL.cons ?_ ?_) | exact Vw.refl _ | exact Vw.top _ | fail))))⟩
   rw [h2'.out, hd.out, XeD _ _ _ hc]; omega
  | false =>
   rw [hc] at htb
   (repeat' (first | with_reducible (first | refine Xah ?_ | refine Xac ?_ | refine Xat ?_ | refine XaW ?_ | refine Xae ?_ | refine Xaa ?_ | refine XaM ?_ | refine XaI ?_) | (refine Xai _ rfl (fun h => ?_) (fun h => ?_) <;> first | (exact absurd h (by decide)) | ((try (simp only [] at h)); skip)) | ((first | apply Xad rfl | apply Xa7 _ _ rfl rfl rfl); (case h => ((try (intro (hp : (_ : Bool) = true); ((try simp only [hp]); (try simp only [whn] at hp)))); (first | (apply Xab 0 rfl; (first | exact Xar _ rfl | exact Xao _ rfl)) | (apply Xab 1 rfl; (exact Xbn _ _ _ _ _ rfl rfl rfl rfl)) | (apply Xab 8 rfl; (exact XaS _ _ _ _ _ _ _ rfl rfl rfl (by kernel_rfl) rfl (by omega))) | (apply Xab 11 rfl; (exact Xaz f fn _ _ rfl rfl hf hnn hb (VwL.refl _ _) htb)) | (apply XaF; (case hs => (intro _ _ h; cases h)); (case hx => rfl); (case hrun => (intro w; simp [wtb, AV.val, go_sem]; skip; rfl)))))); (case hT => ((try simp only [wtn]); rfl))) | fail))
   refine Xaf _ _ (Xbl rfl (RV.tmp _) (XaK.mk' [] _ (XuZ _) (XaE.refl _ _) (VwL.refl _ _))) ?_
   refine ⟨?_, rfl⟩
   rw [h2'.out, hd.out, Xk7 _ _ _ hc]; rfl
 ·have htb := ht 0
  (repeat' (first | with_reducible (first | refine Xah ?_ | refine Xac ?_ | refine Xat ?_ | refine XaW ?_ | refine Xae ?_ | refine Xaa ?_ | refine XaM ?_ | refine XaI ?_) | (refine Xai _ rfl (fun h => ?_) (fun h => ?_) <;> first | (exact absurd h (by decide)) | ((try (simp only [] at h)); skip)) | ((first | apply Xad rfl | apply Xa7 _ _ rfl rfl rfl); (case h => ((try (intro (hp : (_ : Bool) = true); ((try simp only [hp]); (try simp only [whn] at hp)))); (first | (apply Xab 0 rfl; (first | exact Xar _ rfl | exact Xao _ rfl)) | (apply Xab 1 rfl; (exact Xbn _ _ _ _ _ rfl rfl rfl rfl)) | (apply Xab 8 rfl; (exact XaS _ _ _ _ _ _ _ rfl rfl rfl (by kernel_rfl) rfl (by omega))) | (apply Xab 11 rfl; (exact Xaz f fn _ (.x (.bool false)) rfl rfl hf hnn hb (VwL.refl _ _) (by exfalso; omega))) | (apply XaF; (case hs => (intro _ _ h; cases h)); (case hx => rfl); (case hrun => (intro w; simp [wtb, AV.val, go_sem]; skip; rfl)))))); (case hT => ((try simp only [wtn]); rfl))) | fail))
  refine Xaf _ _ (Xbl rfl (RV.tmp _) (XaK.mk' [] _ (XuZ _) (XaE.refl _ _) (VwL.refl _ _))) ?_
  refine ⟨?_, rfl⟩
  have e : l.drop k = [] := List.drop_eq_nil_of_le (by omega)
  rw [h2'.out, e]; rfl
def scc (t : List UInt8) (at_ line col : Int) : List AV := [.x (.string (bs t)), .x (.int .i64 at_), .x (.int .i64 line), .x (.int .i64 col)]
set_option maxRecDepth 100000 in
set_option maxHeartbeats 8000000 in
theorem Xd9 (b : Nat) (t : List UInt8) (i line col : Int) (n : Nat) (hi : 0 ≤ i ∧ i ≤ 1000000) (hc : 0 ≤ col ∧ col ≤ 1000000) (hn : n ≤ 1000000) : Xa8 Tryz.prog 85 [.box b (scc t i line col)] [.x (.pointer (some ⟨b, 0, none⟩)), .x (.int .i64 n)] (fun r H' => H' = [.box b (scc t (i + n) line (col + n))]) := by
 unfold scc
 refine XaG Tryz.func85 rfl ?_
 simp only [Tryz.ntmps85, Xu2, Xu5, Xu6, Xu7, Xva, Xu9, Nat.reduceAdd, Nat.reduceSub]
 (repeat' (first | with_reducible (first | refine Xah ?_ | refine Xac ?_ | refine Xae ?_ | refine Xaa ?_) | ((apply Xad rfl); (case h => ((first | (apply Xab 0 rfl; (exact Xar _ rfl)) | (apply Xab 4 rfl; (exact Xbf _ rfl (by first | exact .inl ⟨_, rfl⟩ | fail))) | (apply Xab 5 rfl; (exact Xal _ _ _ _ _ _ rfl rfl Xa6.out)) | (apply Xab 6 rfl; (exact XaA _ _ _ _ _ _ _ _ rfl rfl XaZ.out XaO.out (by first | exact XuY rfl | fail) (by first | exact XuY rfl | fail))) | (apply XaF; (case hs => (intro _ _ h; cases h)); (case hx => rfl); (case hrun => (intro w; simp [wtb, AV.val, go_sem]; (try go_bits); rfl)))))); (case hT => ((try simp only [wtn]); rfl))) | (refine Xaj rfl ?_; (((refine Xaq 16 rfl ?_; ((refine Xau _ _ _ _ _ _ _ rfl rfl XaZ.out XaR.out (by first | rfl | fail) (by first | exact XuY rfl | fail) ?_)))); apply Xak; (case hT => ((try simp only [wtn]); rfl)); (case hH => ((try simp only [wtn]); rfl)))) | fail))
 exact Xda _ _ (Xrz rfl (XaK.mk' [] _ (XuZ _) (XaE.refl _ _) (by (repeat' (first | exact VwL.nil | fail))))) rfl
theorem XhA (l : List UInt8) : (Lib.indexByte l 10 = -1 ∧ cmt l = l.length) ∨ Lib.indexByte l 10 = cmt l := by
 induction l with
 | nil => exact .inl ⟨rfl, rfl⟩
 | cons c r ih =>
  by_cases h : c.toNat = 10
  ·have e : c = 10 := UInt8.toNat_inj.1 h
   subst e
   right
   rw [Xnd _ _ h]
   rfl
  ·have e : (c == 10) = false := by
    rw [Xvg]
    intro e; subst e; exact h rfl
   rw [Xft _ _ h]
   unfold Lib.indexByte
   rw [e]
   simp only [Bool.false_eq_true, if_false, Xu2]
   rcases ih with ⟨h1, h2⟩ | h1
   ·left; simp [h1, h2]
   ·right
    rw [h1]
    have : ((cmt r : Int) == -1) = false := by rw [Xvg]; omega
    rw [this]
    simp
theorem Xkk (l : List UInt8) : Xa8 Tryz.prog 120 [] [.x (.string (bs l)), .x (.int .u8 10)] (fun r H' => r = .x (.int .i64 (Lib.indexByte l 10)) ∧ H' = []) :=
 Xcn (args := [.string (bs l), .int .u8 10]) (fun w => (strings_IndexByte (bs l) 10 w).mono fun e w' ⟨h1, h2⟩ => ⟨by rw [h1]; simp [bs], h2 ▸ Below.refl _ _⟩) []
theorem XnD : ∀ (l : List UInt8) (p : Nat × Nat), plc p (l.take (cmt l)) = (p.1, p.2 + cmt l)
 | [], p => by simp [cmt, plc]
 | c :: r, p => by
  by_cases h : c.toNat = 10
  ·rw [Xnd _ _ h]; simp [plc]
  ·rw [Xft _ _ h, List.take_succ_cons, plc, if_neg h, XnD r]
   simp; omega
theorem XqR (t : List UInt8) (j : Nat) (h : j < t.length) : plc (1, 1) (t.take (j + 1)) = if (t.getD j 0).toNat = 10 then ((plc (1, 1) (t.take j)).1 + 1, 1) else ((plc (1, 1) (t.take j)).1, (plc (1, 1) (t.take j)).2 + 1) := by
 rw [← XfC t j 1, Xh7 t j h, List.take_succ_cons, List.take_zero]
 rfl
def sc (t : List UInt8) (k : Nat) : List AV := scc t k (plc (1, 1) (t.take k)).1 (plc (1, 1) (t.take k)).2
theorem XkS : ∀ (l : List UInt8) (p : Nat × Nat), (plc p l).1 ≤ p.1 + l.length ∧ (plc p l).2 ≤ p.2 + l.length + 1 ∧ p.1 ≤ (plc p l).1
 | [], p => by simp [plc]
 | c :: r, p => by
  rw [plc]
  split
  ·have := XkS r (p.1 + 1, 1); simp only [Xu2] at *; omega
  ·have := XkS r (p.1, p.2 + 1); simp only [Xu2] at *; omega
theorem Xt9 {l r : List UInt8} {c : UInt8} (hl : l = c :: r) (h : c.toNat = 32 ∨ c.toNat = 9 ∨ c.toNat = 10 ∨ c.toNat = 13) : skp l = skp r + 1 := by subst hl; exact Xfc c r h
theorem Xti {l r : List UInt8} {c : UInt8} (hl : l = c :: r) (h : c.toNat = 35) : skp l = cmt l + skp (l.drop (cmt l)) ∧ 1 ≤ cmt l := by
 subst hl
 exact ⟨Xkh c r h, by rw [Xft _ _ (by omega)]; omega⟩
theorem Xs6 {l r : List UInt8} {c : UInt8} (hl : l = c :: r) (h : ¬(c.toNat = 32 ∨ c.toNat = 9 ∨ c.toNat = 10 ∨ c.toNat = 13)) (h2 : c.toNat ≠ 35) : skp l = 0 := by subst hl; exact Xlh c r h h2
set_option maxRecDepth 100000 in
set_option maxHeartbeats 8000000 in
theorem Xij (b : Nat) (t : List UInt8) (k : Nat) (hk : k ≤ t.length) (ht : t.length ≤ 100000) : Xa8 Tryz.prog 83 [.box b (sc t k)] [.x (.pointer (some ⟨b, 0, none⟩))] (fun r H' => H' = [.box b (sc t (nxk t k))]) := by
 unfold sc scc
 refine XaG Tryz.func83 rfl ?_
 simp only [Tryz.ntmps83, Xu2, Xu5, Xu6, Xu7, Xva, Xu9, Nat.reduceAdd, Nat.reduceSub]
 (repeat' (first | with_reducible (refine Xan ?_) | fail))
 refine XaT (S := Nat) (fun j => frm 70 [(0, .x (.pointer (some ⟨b, 0, none⟩)))]) (fun j => [.box b [.x (.string (bs t)), .x (.int .i64 j), .x (.int .i64 ((plc (1, 1) (t.take j)).1 : Nat)), .x (.int .i64 ((plc (1, 1) (t.take j)).2 : Nat))]]) (fun j => j ≤ t.length ∧ j + skp (t.drop j) = k + skp (t.drop k)) (fun j => t.length - j) k (XaK.mk' [] _ (XuZ _) (XaE.refl _ _) (by (repeat' (first | exact VwL.nil | (refine VwL.cons ?_ ?_) | exact Vw.refl _ | fail)))) ⟨hk, rfl⟩ fun j hj => ?_
 obtain ⟨h1, h2⟩ := hj
 have h2' := Lib.hid h2
 clear h2
 simp only [frm, Xu6, Xu7, Xu0, Xu1, Xvd]
 have hpl := XkS (t.take j) (1, 1)
 rw [List.length_take, Nat.min_eq_left h1] at hpl
 by_cases hlt : j < t.length
 ·have hd := Xh7 t j hlt
  have hpn := XqR t j hlt
  have hcm := XfC t j (cmt (t.drop j))
  rw [XnD] at hcm
  have hcl := Xq8 (t.drop j)
  rw [List.length_drop] at hcl
  rw [List.getD_eq_getElem?_getD] at hd hpn
  generalize hL : (plc (1, 1) (t.take j)).1 = L at hpl hpn hcm ⊢
  generalize hC : (plc (1, 1) (t.take j)).2 = C at hpl hpn hcm ⊢
  have hLC : (plc (1, 1) (t.take j)).1 = L ∧ (plc (1, 1) (t.take j)).2 = C := ⟨hL, hC⟩
  have hLC := Lib.hid hLC
  clear hL hC
  have hd' := Lib.hid hd
  have hpn' := Lib.hid hpn
  have hcm' := Lib.hid hcm
  clear hd hpn hcm
  have hib := Xkk (t.drop j)
  have hdl : (t.drop j).length = t.length - j := List.length_drop
  rcases XhA (t.drop j) with ⟨hi1, hi2⟩ | hi1
  ·rw [hi1] at hib
   have hcc : cmt (t.drop j) = t.length - j := by rw [hi2, hdl]
   have hcc' := Lib.hid hcc
   clear hi1 hi2 hcc
   (repeat' (first | with_reducible (first | refine Xah ?_ | refine Xac ?_ | refine Xan ?_ | refine Xat ?_ | refine Xax ?_ | refine Xae ?_ | refine Xb3 ?_ | refine Xaa ?_ | refine Xaw ?_ | refine Xag ?_ | refine Xav ?_) | (with_reducible refine Xbc Xbd ?_ ?_; (decide +kernel)) | (refine Xai _ rfl (fun h => ?_) (fun h => ?_) <;> first | (exact absurd h (by decide)) | ((try (simp only [whn] at h)); first | (exfalso; omega; done) | skip)) | ((first | apply Xad rfl | apply XbH rfl); (case h => ((first | (apply Xab 0 rfl; (first | exact Xar _ rfl | exact Xao _ rfl)) | (apply Xab 4 rfl; (exact Xbf _ rfl (by first | exact .inl ⟨_, rfl⟩ | fail))) | (apply Xab 5 rfl; (exact Xal _ _ _ _ _ _ rfl rfl Xa6.out)) | (apply Xab 6 rfl; (exact XaA _ _ _ _ _ _ _ _ rfl rfl XaZ.out XaO.out (by first | exact XuY rfl | fail) (by first | exact XuY rfl | fail))) | (apply Xab 8 rfl; (exact XaS _ _ _ _ _ _ _ rfl rfl rfl (by kernel_rfl) rfl (by omega))) | (apply Xab 9 rfl; (exact Xa0 _ _ _ _ _ _ _ rfl rfl (by kernel_rfl) (by first | exact .inr ⟨_, _, rfl, rfl⟩ | fail) (by first | exact .inl ⟨rfl, rfl⟩ | fail) (by omega) (by omega))) | (apply Xab 11 rfl; (exact Xaz 120 Tryz.f120 _ _ rfl rfl Tryz.func120 (by decide) rfl (VwL.refl _ _) (hib))) | (apply XaF; (case hs => (intro _ _ h; cases h)); (case hx => rfl); (case hrun => (intro w; simp [wtb, AV.val, go_sem]; (try go_bits); rfl)))))); (case hT => ((try simp (disch := omega) only [wtn, scc, List.take_length, List.drop_zero, hdl, Xu3, Xu0, Xu1, Xu4, Xu8, Nat.reduceAdd, Nat.reduceMul, Nat.reduceSub, ↓reduceIte, Nat.reduceEqDiff]); rfl))) | (refine Xaj rfl ?_; ((first | (refine Xaq 11 rfl ?_; (first | (refine Xam 85 Tryz.f85 ([_]) _ _ _ rfl rfl Tryz.func85 (by decide) rfl (XuZ _) (VwL.refl _ _) (Xd9 b t j L C 1 (by omega) (by omega) (by omega)) ?_; rintro _ _ rfl) | (refine Xam 85 Tryz.f85 ([_]) _ _ _ rfl rfl Tryz.func85 (by decide) rfl (XuZ _) (VwL.refl _ _) (Xd9 b t j L C (t.length - j) (by omega) (by omega) (by omega)) ?_; rintro _ _ rfl))) | (refine Xaq 16 rfl ?_; ((refine Xau _ _ _ _ _ _ _ rfl rfl XaZ.out XaR.out (by first | rfl | fail) (by first | exact XuY rfl | fail) ?_)))); apply Xak; (case hT => ((try simp (disch := omega) only [wtn, scc, List.take_length, List.drop_zero, hdl, Xu3, Xu0, Xu1, Xu4, Xu8, Nat.reduceAdd, Nat.reduceMul, Nat.reduceSub, ↓reduceIte, Nat.reduceEqDiff]); rfl)); (case hH => ((try simp (disch := omega) only [wtn, scc, List.take_length, List.drop_zero, hdl, Xu3, Xu0, Xu1, Xu4, Xu8, Nat.reduceAdd, Nat.reduceMul, Nat.reduceSub, ↓reduceIte, Nat.reduceEqDiff]); rfl)))) | fail))
   all_goals first
    | (have es := Xt9 hd'.out (by omega)
       have e2 := h2'.out
       refine ⟨j + 1, by omega, ⟨by omega, by omega⟩, ?_⟩
       rw [hpn'.out]
       first
        | (rw [if_pos (by omega)]; exact (XaK.mk' [] _ (XuZ _) (XaE.refl _ _) (by (repeat' (first | exact VwL.nil | (refine VwL.cons ?_ ?_) | exact Vw.refl _ | exact Vw.top _ | fail)))))
        | (rw [if_neg (by omega)]; exact (XaK.mk' [] _ (XuZ _) (XaE.refl _ _) (by (repeat' (first | exact VwL.nil | (refine VwL.cons ?_ ?_) | exact Vw.refl _ | exact Vw.top _ | fail))))))
    | (have es := Xti hd'.out (by omega)
       have e2 := h2'.out
       have e3 := hcc'.out
       rw [List.drop_drop] at es
       rw [e3] at es
       refine ⟨j + (t.length - j), by omega, ⟨by omega, by omega⟩, ?_⟩
       have e4 := hcm'.out
       rw [e3] at e4
       rw [← e4]
       exact (XaK.mk' [] _ (XuZ _) (XaE.refl _ _) (by (repeat' (first | exact VwL.nil | (refine VwL.cons ?_ ?_) | exact Vw.refl _ | exact Vw.top _ | fail)))))
    | (have es := Xs6 hd'.out (by omega) (by omega)
       have e2 := h2'.out
       have ek : nxk t k = j := by unfold nxk; omega
       have e5 := hLC.out
       rw [ek, e5.1, e5.2]
       exact Xaf _ _ (Xrz rfl (XaK.mk' [] _ (XuZ _) (XaE.refl _ _) (by (repeat' (first | exact VwL.nil | fail))))) rfl)
    | trace_state
  ·rw [hi1] at hib
   have htl : ((t.drop j).take (cmt (t.drop j))).length = cmt (t.drop j) := by rw [List.length_take, hdl]; omega
   generalize hrs : (t.drop j).take (cmt (t.drop j)) = rs at htl
   (repeat' (first | with_reducible (first | refine Xah ?_ | refine Xac ?_ | refine Xan ?_ | refine Xat ?_ | refine Xax ?_ | refine Xae ?_ | refine Xb3 ?_ | refine Xaa ?_ | refine Xaw ?_ | refine Xag ?_ | refine Xav ?_) | (with_reducible refine Xbc Xbd ?_ ?_; (decide +kernel)) | (refine Xai _ rfl (fun h => ?_) (fun h => ?_) <;> first | (exact absurd h (by decide)) | ((try (simp only [whn] at h)); first | (exfalso; omega; done) | skip)) | ((first | apply Xad rfl | apply XbH rfl); (case h => ((first | (apply Xab 0 rfl; (first | exact Xar _ rfl | exact Xao _ rfl)) | (apply Xab 4 rfl; (exact Xbf _ rfl (by first | exact .inl ⟨_, rfl⟩ | fail))) | (apply Xab 5 rfl; (exact Xal _ _ _ _ _ _ rfl rfl Xa6.out)) | (apply Xab 6 rfl; (exact XaA _ _ _ _ _ _ _ _ rfl rfl XaZ.out XaO.out (by first | exact XuY rfl | fail) (by first | exact XuY rfl | fail))) | (apply Xab 8 rfl; (exact XaS _ _ _ _ _ _ _ rfl rfl rfl (by kernel_rfl) rfl (by omega))) | (apply Xab 9 rfl; (exact Xa0 _ _ _ _ _ _ _ rfl rfl (by kernel_rfl) (by first | exact .inl ⟨rfl, rfl⟩ | exact .inr ⟨_, _, rfl, rfl⟩ | fail) (by first | exact .inl ⟨rfl, rfl⟩ | exact .inr ⟨_, _, rfl, rfl⟩ | fail) (by omega) (by omega))) | (apply Xab 11 rfl; (exact Xaz 120 Tryz.f120 _ _ rfl rfl Tryz.func120 (by decide) rfl (VwL.refl _ _) (hib))) | (apply XaF; (case hs => (intro _ _ h; cases h)); (case hx => rfl); (case hrun => (intro w; simp [wtb, AV.val, go_sem]; (try go_bits); rfl)))))); (case hT => ((try simp (disch := omega) only [wtn, scc, List.take_length, List.drop_zero, hdl, hrs, htl, Xu3, Xu0, Xu1, Xu4, Xu8, Nat.reduceAdd, Nat.reduceMul, Nat.reduceSub, ↓reduceIte, Nat.reduceEqDiff]); rfl))) | (refine Xaj rfl ?_; ((first | (refine Xaq 11 rfl ?_; (first | (refine Xam 85 Tryz.f85 ([_]) _ _ _ rfl rfl Tryz.func85 (by decide) rfl (XuZ _) (VwL.refl _ _) (Xd9 b t j L C 1 (by omega) (by omega) (by omega)) ?_; rintro _ _ rfl) | (refine Xam 85 Tryz.f85 ([_]) _ _ _ rfl rfl Tryz.func85 (by decide) rfl (XuZ _) (VwL.refl _ _) (Xd9 b t j L C (cmt (t.drop j)) (by omega) (by omega) (by omega)) ?_; rintro _ _ rfl))) | (refine Xaq 16 rfl ?_; ((refine Xau _ _ _ _ _ _ _ rfl rfl XaZ.out XaR.out (by first | rfl | fail) (by first | exact XuY rfl | fail) ?_)))); apply Xak; (case hT => ((try simp (disch := omega) only [wtn, scc, List.take_length, List.drop_zero, hdl, hrs, htl, Xu3, Xu0, Xu1, Xu4, Xu8, Nat.reduceAdd, Nat.reduceMul, Nat.reduceSub, ↓reduceIte, Nat.reduceEqDiff]); rfl)); (case hH => ((try simp (disch := omega) only [wtn, scc, List.take_length, List.drop_zero, hdl, hrs, htl, Xu3, Xu0, Xu1, Xu4, Xu8, Nat.reduceAdd, Nat.reduceMul, Nat.reduceSub, ↓reduceIte, Nat.reduceEqDiff]); rfl)))) | fail))
   all_goals first
    | (have es := Xt9 hd'.out (by omega)
       have e2 := h2'.out
       refine ⟨j + 1, by omega, ⟨by omega, by omega⟩, ?_⟩
       rw [hpn'.out]
       first
        | (rw [if_pos (by omega)]; exact (XaK.mk' [] _ (XuZ _) (XaE.refl _ _) (by (repeat' (first | exact VwL.nil | (refine VwL.cons ?_ ?_) | exact Vw.refl _ | exact Vw.top _ | fail)))))
        | (rw [if_neg (by omega)]; exact (XaK.mk' [] _ (XuZ _) (XaE.refl _ _) (by (repeat' (first | exact VwL.nil | (refine VwL.cons ?_ ?_) | exact Vw.refl _ | exact Vw.top _ | fail))))))
    | (have es := Xti hd'.out (by omega)
       have e2 := h2'.out
       have e3 := (rfl : cmt (t.drop j) = cmt (t.drop j))
       rw [List.drop_drop] at es
       rw [e3] at es
       refine ⟨j + cmt (t.drop j), by omega, ⟨by omega, by omega⟩, ?_⟩
       have e4 := hcm'.out
       rw [e3] at e4
       rw [← e4]
       exact (XaK.mk' [] _ (XuZ _) (XaE.refl _ _) (by (repeat' (first | exact VwL.nil | (refine VwL.cons ?_ ?_) | exact Vw.refl _ | exact Vw.top _ | fail)))))
    | (have es := Xs6 hd'.out (by omega) (by omega)
       have e2 := h2'.out
       have ek : nxk t k = j := by unfold nxk; omega
       have e5 := hLC.out
       rw [ek, e5.1, e5.2]
       exact Xaf _ _ (Xrz rfl (XaK.mk' [] _ (XuZ _) (XaE.refl _ _) (by (repeat' (first | exact VwL.nil | fail))))) rfl)
    | trace_state
 ·have e : t.drop j = [] := List.drop_eq_nil_of_le (by omega)
  have e2 := h2'.out
  rw [e, Xgj] at e2
  have ek : nxk t k = j := by unfold nxk; omega
  rw [ek]
  (repeat' (first | with_reducible (first | refine Xah ?_ | refine XaW ?_ | refine Xb3 ?_ | refine Xaa ?_ | refine XaM ?_ | refine XaI ?_) | (with_reducible refine Xbc Xbd ?_ ?_; (decide +kernel)) | (refine Xai _ rfl (fun h => ?_) (fun h => ?_) <;> ((try (simp only [whn] at h)); first | (exfalso; omega; done) | skip)) | ((apply XbH rfl); (case h => ((first | (apply Xab 0 rfl; (exact Xar _ rfl)) | (apply Xab 4 rfl; (exact Xbf _ rfl (by first | exact .inl ⟨_, rfl⟩ | fail))) | (apply Xab 5 rfl; (exact Xal _ _ _ _ _ _ rfl rfl Xa6.out)) | (apply Xab 6 rfl; (exact XaA _ _ _ _ _ _ _ _ rfl rfl XaZ.out XaO.out (by first | exact XuY rfl | fail) (by first | exact XuY rfl | fail))) | (apply XaF; (case hs => (intro _ _ h; cases h)); (case hx => rfl); (case hrun => (intro w; simp [wtb, AV.val, go_sem]; skip; rfl)))))); (case hT => ((try simp only [wtn]); rfl))) | fail))
  exact Xda _ _ (Xrz rfl (XaK.mk' [] _ (XuZ _) (XaE.refl _ _) (by (repeat' (first | exact VwL.nil | fail))))) rfl
end Go.Proofs.YtdpobjakdplljaaGreatDoor
