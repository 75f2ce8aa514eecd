import Derived.Test.YtdpobjakdplljaaGreatDoorW8
/- The reference's commands: clean, Same, proper: exact. -/
set_option linter.unusedSimpArgs false
set_option linter.unusedVariables false
namespace Go.Proofs.YtdpobjakdplljaaGreatDoor
open Go.RowKit
def XfI (a d : CF) : Bool := a.kind == d.kind && a.rows == d.rows && a.cols == d.cols && a.name == d.name && a.data == d.data
def XcB (c : CF) : CF := if c.kind = 1 then ⟨c.kind, c.rows, c.cols, [], []⟩ else if c.kind = 2 ∨ c.kind = 4 ∨ c.kind = 5 ∨ c.kind = 6 then ⟨c.kind, 0, 0, c.name, []⟩ else if c.kind = 3 ∨ c.kind = 7 then ⟨c.kind, 0, 0, [], c.data⟩ else ⟨c.kind, 0, 0, [], []⟩
set_option maxRecDepth 100000 in
set_option maxHeartbeats 8000000 in
theorem XpA (a d : CF) : Xa8 Tryz.prog 165 [] [.agg a.cells, .agg d.cells] (fun r H' => r = .x (.bool (XfI a d)) ∧ H' = []) := by
 unfold CF.cells
 refine XaG Tryz.func165 rfl ?_
 simp only [Tryz.ntmps165, Xu2, Xu5, Xu6, Xu7, Xva, Xu9, Nat.reduceAdd, Nat.reduceSub]
 (repeat' (first | with_reducible (first | refine Xah ?_ | refine Xac ?_ | refine Xat ?_ | refine Xae ?_ | refine Xaa ?_) | ((first | apply Xad rfl | apply Xa7 _ _ rfl rfl rfl); (case h => ((try (intro (hp : (_ : Bool) = true); ((try simp only [Bool.and_eq_true] at hp); (try simp only [hp, wte]); (try simp only [whn] at hp)))); (first | (apply Xab 0 rfl; (first | exact Xar _ rfl | exact Xao _ rfl)) | (apply Xab 1 rfl; (exact Xbn _ _ _ _ _ rfl rfl rfl rfl)) | (apply Xab 5 rfl; (exact Xal _ _ _ _ _ _ rfl rfl Xa6.out)) | (apply Xab 6 rfl; (exact XaA _ _ _ _ _ _ _ _ rfl rfl XaZ.out XaO.out (by first | exact XuY rfl | fail) (by first | exact XuY rfl | fail))) | (apply Xab 12 rfl; (first | exact XbM _ _ 5 _ a.data rfl (by kernel_rfl) (by kernel_rfl) (by kernel_rfl) (Src.sq rfl) | exact XbM _ _ 5 _ d.data rfl (by kernel_rfl) (by kernel_rfl) (by kernel_rfl) (Src.sq rfl))) | (apply XaF; (case hs => (intro _ _ h; cases h)); (case hx => rfl); (case hrun => (intro w; simp [wtb, AV.val, go_sem]; skip; rfl)))))); (case hT => ((try simp only [wtn]); rfl))) | (refine Xaj rfl ?_; (((refine Xaq 15 rfl ?_; ((refine Xbt _ _ rfl (by first | rfl | fail) (fun b => ?_))))); apply Xak; (case hT => ((try simp only [wtn]); rfl)); (case hH => ((try simp only [wtn]); rfl)))) | fail))
 refine Xaf _ _ (Xbl rfl (RV.tmp _) (XaK.mk' [_, _] [] (XuZ _) (XaE.refl _ _) (by first | exact VwL.refl _ _ | fail))) ?_
 exact ⟨rfl, rfl⟩
set_option maxRecDepth 100000 in
set_option maxHeartbeats 8000000 in
theorem Xm8 (a : CF) : Xa8 Tryz.prog 166 [] [.agg a.cells] (fun r H' => r = .agg (XcB a).cells ∧ H' = []) := by
 unfold CF.cells
 refine XaG Tryz.func166 rfl ?_
 simp only [Tryz.ntmps166, Xu2, Xu5, Xu6, Xu7, Xva, Xu9, Nat.reduceAdd, Nat.reduceSub]
 (repeat' (first | with_reducible (first | refine Xah ?_ | refine Xac ?_ | refine Xan ?_ | refine Xat ?_ | refine Xax ?_ | refine Xae ?_ | refine Xaa ?_ | refine Xag ?_) | (refine Xai _ rfl (fun h => ?_) (fun h => ?_) <;> ((try (simp only [whn] at h)); first | (exfalso; omega; done) | skip)) | ((apply Xad rfl); (case h => ((first | (apply Xab 0 rfl; (exact Xao _ rfl)) | (apply Xab 5 rfl; (exact Xal _ _ _ _ _ _ rfl rfl Xa6.out)) | (apply Xab 6 rfl; (exact XaA _ _ _ _ _ _ _ _ rfl rfl XaZ.out XaO.out (by first | exact XuY rfl | fail) (by first | exact XuY rfl | fail))) | (apply Xab 10 rfl; (exact Xc4 _ _ _ _ rfl HPl.out (by decide) rfl (by simp [wtb, AV.one, Value.oneCell']))) | (apply XaF; (case hs => (intro _ _ h; cases h)); (case hx => rfl); (case hrun => (intro w; simp [wtb, AV.val, go_sem]; skip; rfl)))))); (case hT => ((try simp only [wtn, Xu0, Xu1, ↓reduceIte]); rfl))) | (refine Xaj rfl ?_; ((first | (refine Xaq 14 rfl ?_; ((refine XaN _ _ rfl Xbp.out rfl (fun b => ?_)))) | (refine Xaq 15 rfl ?_; ((refine Xbt _ _ rfl (by first | rfl | fail) (fun b => ?_)))) | (refine Xaq 16 rfl ?_; ((refine Xau _ _ _ _ _ _ _ rfl rfl XaZ.out XaR.out (by first | rfl | fail) (by first | exact XuY rfl | fail) ?_)))); apply Xak; (case hT => ((try simp only [wtn]); rfl)); (case hH => ((try simp only [wtn, Nat.reduceAdd]); rfl)))) | fail))
 case' h.h.hK.hK.hK.h.h.hK.hK.hK.hK.refine_1 =>
  refine Xb1 Xbd [] [_] [_, _] (List.perm_append_comm (l₁ := [_, _]) (l₂ := [_])) ?_
  (first | (apply XaJ 0 rfl rfl (by kernel_rfl) (by intro c T H hp; simp [XaP, Xas, XaV, Xbx] at hp); (case h => (exact XaY _ _ _ _ _ _ rfl rfl Xa6.out))) | fail); (apply Xap; (case hT => ((try simp only [wtn]); rfl)); (case hH => rfl)); (first | refine Xbg 1 rfl rfl (by kernel_rfl) (by intro c T H hp; simp [XaP, Xas, XaV, Xbx] at hp) _ _ _ _ _ _ _ _ rfl rfl XaZ.out XaO.out (by first | exact XuY rfl | fail) (by first | exact XuY rfl | fail) ?_ | fail); (apply Xap; (case hT => ((try simp only [wtn]); rfl)); (case hH => rfl)); (first | (apply XaJ 2 rfl rfl (by kernel_rfl) (by intro c T H hp; simp [XaP, Xas, XaV, Xbx] at hp); (case h => (exact XaY _ _ _ _ _ _ rfl rfl Xa6.out))) | fail); (apply Xap; (case hT => ((try simp only [wtn]); rfl)); (case hH => rfl)); (first | refine Xbg 3 rfl rfl (by kernel_rfl) (by intro c T H hp; simp [XaP, Xas, XaV, Xbx] at hp) _ _ _ _ _ _ _ _ rfl rfl XaZ.out XaO.out (by first | exact XuY rfl | fail) (by first | exact XuY rfl | fail) ?_ | fail); (apply Xap; (case hT => ((try simp only [wtn]); rfl)); (case hH => rfl)); (first | (apply XaJ 4 rfl rfl (by kernel_rfl) (by intro c T H hp; simp [XaP, Xas, XaV, Xbx] at hp); (case h => (exact XaY _ _ _ _ _ _ rfl rfl Xa6.out))) | fail); (apply Xap; (case hT => ((try simp only [wtn]); rfl)); (case hH => rfl))
  (repeat ((first | refine Xby 5 (by decide +kernel) rfl rfl ?_ | refine Xby 6 (by decide +kernel) rfl rfl ?_ | refine Xby 7 (by decide +kernel) rfl rfl ?_ | fail); (first | (apply Xa9; (case h => ((apply Xab 5 rfl; (exact Xal _ _ _ _ _ _ rfl rfl Xa6.out)))); (apply Xap; (case hT => ((try simp only [wtn]); rfl)); (case hH => rfl))) | (((refine Xaq 16 rfl ?_; ((refine Xau _ _ _ _ _ _ _ rfl rfl XaZ.out XaR.out (by first | rfl | fail) (by first | exact XuY rfl | fail) ?_)))); apply Xap; (case hT => ((try simp only [wtn]); rfl)); (case hH => ((try simp only [wtn]); rfl))) | fail)))
  refine XbQ (by decide +kernel) ?_
  refine Xay rfl (by simp only [Xva, Xu9]; rfl) ?_
  refine Xa3 (by decide +kernel) ?_
  (repeat' (first | with_reducible (first | refine Xah ?_ | refine Xac ?_ | refine Xat ?_ | refine Xae ?_ | refine Xaa ?_ | refine Xag ?_) | ((apply Xad rfl); (case h => (((apply Xab 6 rfl; (exact XaA _ _ _ _ _ _ _ _ rfl rfl XaZ.out XaO.out (by first | exact XuY rfl | fail) (by first | exact XuY rfl | fail)))))); (case hT => ((try simp only [wtn, ↓reduceIte]); rfl))) | (refine Xaj rfl ?_; (((refine Xaq 16 rfl ?_; ((refine Xau _ _ _ _ _ _ _ rfl rfl XaZ.out XaR.out (by first | rfl | fail) (by first | exact XuY rfl | fail) ?_)))); apply Xak; (case hT => ((try simp only [wtn]); rfl)); (case hH => ((try simp only [wtn, Nat.reduceAdd]); rfl)))) | fail))
 all_goals first
  | (have e : XcB a = ⟨a.kind, a.rows, a.cols, [], []⟩ := by unfold XcB; (repeat' split) <;> first | rfl | (exfalso; omega) | fail
     rw [e]
     exact Xaf _ _ (Xbl rfl (RV.cell 2 rfl rfl XaO.out (by simp) (by simp)) (XaK.mk' [_, _, _] [] (XuZ _) XaE.nil (VwL.cons (Vw.aggx (by (repeat' (first | exact VwL.nil | (refine VwL.cons ?_ ?_) | exact Vw.refl _ | exact Vw.nil | fail)))) VwL.nil))) ⟨rfl, rfl⟩)
  | (have e : XcB a = ⟨a.kind, 0, 0, a.name, []⟩ := by unfold XcB; (repeat' split) <;> first | rfl | (exfalso; omega) | fail
     rw [e]
     exact Xaf _ _ (Xbl rfl (RV.cell 1 rfl rfl XaO.out (by simp) (by simp)) (XaK.mk' [_, _, _] [] (XuZ _) XaE.nil (VwL.cons (Vw.aggx (by (repeat' (first | exact VwL.nil | (refine VwL.cons ?_ ?_) | exact Vw.refl _ | exact Vw.nil | fail)))) VwL.nil))) ⟨rfl, rfl⟩)
  | (have e : XcB a = ⟨a.kind, 0, 0, [], a.data⟩ := by unfold XcB; (repeat' split) <;> first | rfl | (exfalso; omega) | fail
     rw [e]
     exact Xaf _ _ (Xbl rfl (RV.cell 1 rfl rfl XaO.out (by simp) (by simp)) (XaK.mk' [_, _, _] [] (XuZ _) XaE.nil (VwL.cons (Vw.agg (by (repeat' (first | exact VwL.nil | (refine VwL.cons ?_ ?_) | exact Vw.refl _ | fail)))) VwL.nil))) ⟨rfl, rfl⟩)
  | (have e : XcB a = ⟨a.kind, 0, 0, [], []⟩ := by unfold XcB; (repeat' split) <;> first | rfl | (exfalso; omega) | fail
     rw [e]
     exact Xaf _ _ (Xbl rfl (RV.cell 1 rfl rfl XaO.out (by simp) (by simp)) (XaK.mk' [_, _, _] [] (XuZ _) XaE.nil (VwL.cons (Vw.aggx (by (repeat' (first | exact VwL.nil | (refine VwL.cons ?_ ?_) | exact Vw.refl _ | exact Vw.nil | fail)))) VwL.nil))) ⟨rfl, rfl⟩)
  | trace_state
def Xed (k : Int) : Prop := k = 2 ∨ k = 4 ∨ k = 5 ∨ k = 6
def Xfv (k : Int) : Prop := k = 3 ∨ k = 7
instance (k : Int) : Decidable (Xed k) := by unfold Xed; infer_instance
instance (k : Int) : Decidable (Xfv k) := by unfold Xfv; infer_instance
def XhP (c : CF) : Prop := (c.kind = 1 ∧ ((1 ≤ c.rows ∧ c.rows ≤ 30) ∧ 1 ≤ c.cols) ∧ c.cols ≤ 100 ∧ c.name = [] ∧ c.data = []) ∨ (Xed c.kind ∧ c.rows = 0 ∧ c.cols = 0 ∧ (1 ≤ c.name.length ∧ c.name.length ≤ 32) ∧ c.data = []) ∨ (Xfv c.kind ∧ c.rows = 0 ∧ c.cols = 0 ∧ c.name = [] ∧ c.data.length ≤ 4095) ∨ ((c.kind = 8 ∨ c.kind = 9) ∧ c.rows = 0 ∧ c.cols = 0 ∧ c.name = [] ∧ c.data = [])
instance (c : CF) : Decidable (XhP c) := by unfold XhP; infer_instance
def Xfy (c : CF) : Bool := decide (XhP c)
theorem Xeo (a : CF) : (XfI a (XcB a) = true) ↔ (if a.kind = 1 then a.name = [] ∧ a.data = [] else if Xed a.kind then (a.rows = 0 ∧ a.cols = 0) ∧ a.data = [] else if Xfv a.kind then (a.rows = 0 ∧ a.cols = 0) ∧ a.name = [] else (a.rows = 0 ∧ a.cols = 0) ∧ a.name = [] ∧ a.data = []) := by
 unfold XcB
 by_cases h1 : a.kind = 1
 ·rw [if_pos h1, if_pos h1]; simp [XfI, and_assoc]
 ·rw [if_neg h1, if_neg h1]
  by_cases h2 : Xed a.kind
  ·rw [if_pos (c := a.kind = 2 ∨ a.kind = 4 ∨ a.kind = 5 ∨ a.kind = 6) h2, if_pos h2]; simp [XfI, and_assoc]
  ·rw [if_neg (c := a.kind = 2 ∨ a.kind = 4 ∨ a.kind = 5 ∨ a.kind = 6) h2, if_neg h2]
   by_cases h3 : Xfv a.kind
   ·rw [if_pos (c := a.kind = 3 ∨ a.kind = 7) h3, if_pos h3]; simp [XfI, and_assoc]
   ·rw [if_neg (c := a.kind = 3 ∨ a.kind = 7) h3, if_neg h3]; simp [XfI, and_assoc]
theorem XnW {a : CF} (h : XhP a) : (1 ≤ a.kind ∧ a.kind ≤ 9) ∧ XfI a (XcB a) = true := by
 rw [Xeo]
 unfold XhP at h
 rcases h with ⟨h1, -, -, h4, h5⟩ | ⟨h1, h2, h3, -, h5⟩ | ⟨h1, h2, h3, h4, -⟩ | ⟨h1, h2, h3, h4, h5⟩
 ·exact ⟨by omega, by rw [if_pos h1]; exact ⟨h4, h5⟩⟩
 ·have hk := h1
  unfold Xed at hk
  exact ⟨by omega, by rw [if_neg (by omega), if_pos h1]; exact ⟨⟨h2, h3⟩, h5⟩⟩
 ·have hk := h1
  unfold Xfv at hk
  exact ⟨by omega, by rw [if_neg (by omega), if_neg (by unfold Xed; omega), if_pos h1]; exact ⟨⟨h2, h3⟩, h4⟩⟩
 ·exact ⟨by omega, by rw [if_neg (by omega), if_neg (by unfold Xed; omega), if_neg (by unfold Xfv; omega)]; exact ⟨⟨h2, h3⟩, h4, h5⟩⟩
theorem XsJ {a : CF} (h : (a.kind < 1 ∨ 9 < a.kind) ∨ XfI a (XcB a) = false) : Xfy a = false := by
 unfold Xfy
 rw [decide_eq_false_iff_not]
 intro hp
 obtain ⟨⟨h1, h2⟩, h3⟩ := XnW hp
 rcases h with h | h
 ·omega
 ·rw [h3] at h; cases h
theorem Xtr {a : CF} (hs : XfI a (XcB a) = true) (h : a.kind = 1) : Xfy a = decide (((1 ≤ a.rows ∧ a.rows ≤ 30) ∧ 1 ≤ a.cols) ∧ a.cols ≤ 100) := by
 rw [Xeo, if_pos h] at hs
 unfold Xfy
 refine decide_eq_decide.2 ?_
 unfold XhP Xed Xfv
 simp [h, hs.1, hs.2, and_assoc]
theorem Xq5 {a : CF} (hs : XfI a (XcB a) = true) (h : Xed a.kind) : Xfy a = decide (1 ≤ a.name.length ∧ a.name.length ≤ 32) := by
 have hk := h
 unfold Xed at hk
 rw [Xeo, if_neg (by omega), if_pos h] at hs
 unfold Xfy
 refine decide_eq_decide.2 ?_
 unfold XhP Xfv
 have h1 : a.kind ≠ 1 := by omega
 have h3 : a.kind ≠ 3 := by omega
 have h7 : a.kind ≠ 7 := by omega
 have h8 : a.kind ≠ 8 := by omega
 have h9 : a.kind ≠ 9 := by omega
 simp [h, h1, h3, h7, h8, h9, hs.1.1, hs.1.2, hs.2]
theorem Xua {a : CF} (hs : XfI a (XcB a) = true) (hk : 1 ≤ a.kind ∧ a.kind ≤ 9) (h1 : a.kind ≠ 1) (hn : ¬ Xed a.kind) : Xfy a = decide (a.data.length ≤ 4095) := by
 have hn' := hn
 unfold Xed at hn'
 rw [Xeo, if_neg h1, if_neg hn] at hs
 unfold Xfy
 refine decide_eq_decide.2 ?_
 unfold XhP
 by_cases h3 : Xfv a.kind
 ·rw [if_pos h3] at hs
  have h3' := h3
  unfold Xfv at h3'
  have h8 : a.kind ≠ 8 := by omega
  have h9 : a.kind ≠ 9 := by omega
  simp [h1, hn, h3, h8, h9, hs.1.1, hs.1.2, hs.2]
 ·rw [if_neg h3] at hs
  have h3' := h3
  unfold Xfv at h3'
  have h8 : a.kind = 8 ∨ a.kind = 9 := by omega
  simp [h1, hn, h3, h8, hs.1.1, hs.1.2, hs.2.1, hs.2.2]
set_option maxRecDepth 100000 in
set_option maxHeartbeats 8000000 in
theorem XlH (a : CF) : Xa8 Tryz.prog 133 [] [.agg a.cells] (fun r H' => r = .x (.bool (Xfy a)) ∧ H' = []) := by
 have hc := Xm8 a
 have hs := XpA a (XcB a)
 unfold CF.cells at hc hs ⊢
 refine XaG Tryz.func133 rfl ?_
 simp only [Tryz.ntmps133, Xu2, Xu5, Xu6, Xu7, Xva, Xu9, Nat.reduceAdd, Nat.reduceSub]
 (repeat' (first | with_reducible (first | refine Xah ?_ | refine Xac ?_ | refine Xan ?_ | refine Xat ?_ | refine Xax ?_ | refine Xae ?_ | refine Xb3 ?_ | refine Xaa ?_ | refine Xaw ?_ | refine Xag ?_ | refine Xav ?_) | (with_reducible refine Xbc Xbd ?_ ?_; (decide +kernel)) | (refine Xai _ rfl (fun h => ?_) (fun h => ?_) <;> ((try (simp only [whn] at h)); first | (exfalso; omega; done) | skip)) | ((first | apply Xad rfl | apply XbH rfl | apply Xa7 _ _ rfl rfl rfl | apply XmC _ _ rfl rfl rfl); (case h => ((try (intro (hp : (_ : Bool) = true); ((try simp only [Bool.and_eq_true, Bool.not_eq_true'] at hp); (try simp only [hp, wte]); (try simp only [whn] at hp)))); (first | (apply Xab 0 rfl; (first | exact Xar _ rfl | exact Xao _ rfl)) | (apply Xab 1 rfl; (first | exact Xbn _ _ _ _ _ rfl rfl rfl rfl | exact Xcz _ _ _ _ _ rfl rfl rfl rfl)) | (apply Xab 3 rfl; (exact XaX _ _ _ _ _ _ HEl.out rfl rfl)) | (apply Xab 5 rfl; (exact Xal _ _ _ _ _ _ rfl rfl Xa6.out)) | (apply Xab 6 rfl; (exact XaA _ _ _ _ _ _ _ _ rfl rfl XaZ.out XaO.out (by first | exact XuY rfl | fail) (by first | exact XuY rfl | fail))) | (apply Xab 11 rfl; (first | exact Xaz 166 Tryz.f166 _ _ rfl rfl Tryz.func166 (by decide) rfl (VwL.refl _ _) (hc) | exact Xaz 165 Tryz.f165 _ _ rfl rfl Tryz.func165 (by decide) rfl (VwL.refl _ _) (hs))) | (apply XaF; (case hs => (intro _ _ h; cases h)); (case hx => rfl); (case hrun => (intro w; simp [wtb, AV.val, go_sem]; skip; rfl)))))); (case hT => ((try simp only [wtn, ↓reduceIte]); rfl))) | (refine Xaj rfl ?_; (((refine Xaq 15 rfl ?_; ((refine Xbt _ _ rfl (by first | rfl | fail) (fun b => ?_))))); apply Xak; (case hT => ((try simp only [wtn]); rfl)); (case hH => ((try simp only [wtn]); rfl)))) | fail))
 ·refine Xaf _ _ (Xbl rfl (RV.tmp _) (XaK.mk' [_] [] (XuZ _) (XaE.refl _ _) (by first | exact VwL.refl _ _ | fail))) ?_
  exact ⟨by rw [XsJ h]; rfl, rfl⟩
 all_goals
  have hkk : (¬a.kind < 1 ∧ ¬9 < a.kind) ∧ XfI a (XcB a) = true := by assumption
  refine Xaf _ _ (Xbl rfl (RV.tmp _) (XaK.mk' [_] [] (XuZ _) (XaE.refl _ _) (by first | exact VwL.refl _ _ | fail))) ?_
  refine ⟨?_, rfl⟩
  first
   | (rw [Xtr hkk.2 (by assumption)]; simp [ev, Bool.decide_and, Nat.lt_iff_add_one_le]; done)
   | (rw [Xq5 hkk.2 (by unfold Xed; omega)]; simp only [ev, List.getD_cons_succ, List.getD_cons_zero]; congr 2; rw [Bool.eq_iff_iff]; simp only [Bool.and_eq_true, decide_eq_true_eq]; omega)
   | (rw [Xq5 hkk.2 (by unfold Xed; omega)]; simp [ev, Bool.decide_and, Nat.lt_iff_add_one_le]; done)
   | (rw [Xua hkk.2 (by omega) (by omega) (by unfold Xed; omega)]; simp only [ev, List.getD_cons_succ, List.getD_cons_zero]; congr 2; rw [Bool.eq_iff_iff]; simp only [decide_eq_true_eq]; omega)
   | trace_state
theorem Xiy (c : CF) : Xfy c = true ↔ ((c.kind = 1 ∧ ((1 ≤ c.rows ∧ c.rows ≤ 30) ∧ 1 ≤ c.cols) ∧ c.cols ≤ 100 ∧ c.name.length = 0 ∧ c.data.length = 0) ∨ ((c.kind = 2 ∨ c.kind = 4 ∨ c.kind = 5 ∨ c.kind = 6) ∧ c.rows = 0 ∧ c.cols = 0 ∧ (1 ≤ c.name.length ∧ c.name.length ≤ 32) ∧ c.data.length = 0) ∨ ((c.kind = 3 ∨ c.kind = 7) ∧ c.rows = 0 ∧ c.cols = 0 ∧ c.name.length = 0 ∧ c.data.length ≤ 4095) ∨ ((c.kind = 8 ∨ c.kind = 9) ∧ c.rows = 0 ∧ c.cols = 0 ∧ c.name.length = 0 ∧ c.data.length = 0)) := by
 unfold Xfy
 rw [decide_eq_true_eq]
 unfold XhP Xed Xfv
 simp only [List.length_eq_zero_iff]
end Go.Proofs.YtdpobjakdplljaaGreatDoor
