import Derived.Test.YtdpobjakdplljaaGreatDoorW13
import Derived.Test.YtdpobjakdplljaaGreatDoorW8
import Derived.Test.YtdpobjakdplljaaGreatDoorW12
import Derived.Test.YtdpobjakdplljaaGreatDoorW6
/- The reference of the lexer: one, a sign; whatever. -/
set_option linter.unusedSimpArgs false
set_option linter.unusedVariables false
namespace Go.Proofs.YtdpobjakdplljaaGreatDoor
open Go.RowKit
set_option maxRecDepth 100000 in
set_option maxHeartbeats 8000000 in
theorem Xjm (c : UInt8) (r : List UInt8) (w : World) (hl : r.length ≤ 999999) (h : Xb7 c = false) (h2 : Xbk c = false) (h3 : c.toNat = 123) : Calls Tryz.prog 56 #[.string (bs (c :: r))] w fun e w' => e = .returned (XfL (one (c :: r))) ∧ Ext w w' := by
 rw [XeX c r h h2 (by omega)]
 have y0 : ((c.toNat : Int) == 34) = false := by first | (rw [Xvg]; omega) | fail
 have y1 : ((c.toNat : Int) == 47) = false := by first | (rw [Xvg]; omega) | fail
 have y2 : ((c.toNat : Int) == 123) = true := by first | (rw [beq_iff_eq]; omega) | fail
 have y3 : ((c.toNat : Int) == 125) = false := by first | (rw [Xvg]; omega) | fail
 have y4 : ((c.toNat : Int) == 44) = false := by first | (rw [Xvg]; omega) | fail
 have y5 : ((c.toNat : Int) == 61) = false := by first | (rw [Xvg]; omega) | fail
 clear h3
 go_enter Tryz.func56, Tryz.ntmps56
 go_wp2_with fail
 refine Calls.mono (Xbz c _) ?_
 rintro e w1 ⟨rfl, rfl⟩
 rw [h]
 go_wp2_with fail
 refine Calls.mono (XbB c _) ?_
 rintro e w1 ⟨rfl, rfl⟩
 rw [h2]
 go_wp2_with fail
 all_goals (try (go_quiet (fail)))
 all_goals (try go_wp2_with fail)
 all_goals refine bodyPost_ret (by simp [results, Tryz.results56, go_sem]; try rfl) rfl ?_
 all_goals exact ⟨by simp [XfL], (by repeat (first | (with_reducible exact Below.refl _ _) | (with_reducible refine Below.drewN ?_ _) | fail))⟩
set_option maxRecDepth 100000 in
set_option maxHeartbeats 8000000 in
theorem Xjt (c : UInt8) (r : List UInt8) (w : World) (hl : r.length ≤ 999999) (h : Xb7 c = false) (h2 : Xbk c = false) (h3 : c.toNat = 125) : Calls Tryz.prog 56 #[.string (bs (c :: r))] w fun e w' => e = .returned (XfL (one (c :: r))) ∧ Ext w w' := by
 rw [XeX c r h h2 (by omega)]
 have y0 : ((c.toNat : Int) == 34) = false := by first | (rw [Xvg]; omega) | fail
 have y1 : ((c.toNat : Int) == 47) = false := by first | (rw [Xvg]; omega) | fail
 have y2 : ((c.toNat : Int) == 123) = false := by first | (rw [Xvg]; omega) | fail
 have y3 : ((c.toNat : Int) == 125) = true := by first | (rw [beq_iff_eq]; omega) | fail
 have y4 : ((c.toNat : Int) == 44) = false := by first | (rw [Xvg]; omega) | fail
 have y5 : ((c.toNat : Int) == 61) = false := by first | (rw [Xvg]; omega) | fail
 clear h3
 go_enter Tryz.func56, Tryz.ntmps56
 go_wp2_with fail
 refine Calls.mono (Xbz c _) ?_
 rintro e w1 ⟨rfl, rfl⟩
 rw [h]
 go_wp2_with fail
 refine Calls.mono (XbB c _) ?_
 rintro e w1 ⟨rfl, rfl⟩
 rw [h2]
 go_wp2_with fail
 all_goals (try (go_quiet (fail)))
 all_goals (try go_wp2_with fail)
 all_goals refine bodyPost_ret (by simp [results, Tryz.results56, go_sem]; try rfl) rfl ?_
 all_goals exact ⟨by simp [XfL], (by repeat (first | (with_reducible exact Below.refl _ _) | (with_reducible refine Below.drewN ?_ _) | fail))⟩
set_option maxRecDepth 100000 in
set_option maxHeartbeats 8000000 in
theorem XjZ (c : UInt8) (r : List UInt8) (w : World) (hl : r.length ≤ 999999) (h : Xb7 c = false) (h2 : Xbk c = false) (h3 : c.toNat = 44) : Calls Tryz.prog 56 #[.string (bs (c :: r))] w fun e w' => e = .returned (XfL (one (c :: r))) ∧ Ext w w' := by
 rw [XeX c r h h2 (by omega)]
 have y0 : ((c.toNat : Int) == 34) = false := by first | (rw [Xvg]; omega) | fail
 have y1 : ((c.toNat : Int) == 47) = false := by first | (rw [Xvg]; omega) | fail
 have y2 : ((c.toNat : Int) == 123) = false := by first | (rw [Xvg]; omega) | fail
 have y3 : ((c.toNat : Int) == 125) = false := by first | (rw [Xvg]; omega) | fail
 have y4 : ((c.toNat : Int) == 44) = true := by first | (rw [beq_iff_eq]; omega) | fail
 have y5 : ((c.toNat : Int) == 61) = false := by first | (rw [Xvg]; omega) | fail
 clear h3
 go_enter Tryz.func56, Tryz.ntmps56
 go_wp2_with fail
 refine Calls.mono (Xbz c _) ?_
 rintro e w1 ⟨rfl, rfl⟩
 rw [h]
 go_wp2_with fail
 refine Calls.mono (XbB c _) ?_
 rintro e w1 ⟨rfl, rfl⟩
 rw [h2]
 go_wp2_with fail
 all_goals (try (go_quiet (fail)))
 all_goals (try go_wp2_with fail)
 all_goals refine bodyPost_ret (by simp [results, Tryz.results56, go_sem]; try rfl) rfl ?_
 all_goals exact ⟨by simp [XfL], (by repeat (first | (with_reducible exact Below.refl _ _) | (with_reducible refine Below.drewN ?_ _) | fail))⟩
set_option maxRecDepth 100000 in
set_option maxHeartbeats 8000000 in
theorem Xj2 (c : UInt8) (r : List UInt8) (w : World) (hl : r.length ≤ 999999) (h : Xb7 c = false) (h2 : Xbk c = false) (h3 : c.toNat = 61) : Calls Tryz.prog 56 #[.string (bs (c :: r))] w fun e w' => e = .returned (XfL (one (c :: r))) ∧ Ext w w' := by
 rw [XeX c r h h2 (by omega)]
 have y0 : ((c.toNat : Int) == 34) = false := by first | (rw [Xvg]; omega) | fail
 have y1 : ((c.toNat : Int) == 47) = false := by first | (rw [Xvg]; omega) | fail
 have y2 : ((c.toNat : Int) == 123) = false := by first | (rw [Xvg]; omega) | fail
 have y3 : ((c.toNat : Int) == 125) = false := by first | (rw [Xvg]; omega) | fail
 have y4 : ((c.toNat : Int) == 44) = false := by first | (rw [Xvg]; omega) | fail
 have y5 : ((c.toNat : Int) == 61) = true := by first | (rw [beq_iff_eq]; omega) | fail
 clear h3
 go_enter Tryz.func56, Tryz.ntmps56
 go_wp2_with fail
 refine Calls.mono (Xbz c _) ?_
 rintro e w1 ⟨rfl, rfl⟩
 rw [h]
 go_wp2_with fail
 refine Calls.mono (XbB c _) ?_
 rintro e w1 ⟨rfl, rfl⟩
 rw [h2]
 go_wp2_with fail
 all_goals (try (go_quiet (fail)))
 all_goals (try go_wp2_with fail)
 all_goals refine bodyPost_ret (by simp [results, Tryz.results56, go_sem]; try rfl) rfl ?_
 all_goals exact ⟨by simp [XfL], (by repeat (first | (with_reducible exact Below.refl _ _) | (with_reducible refine Below.drewN ?_ _) | fail))⟩
set_option maxRecDepth 100000 in
set_option maxHeartbeats 8000000 in
theorem XpR (c : UInt8) (r : List UInt8) (w : World) (hl : r.length ≤ 999999) (h : Xb7 c = false) (h2 : Xbk c = false) (h3 : c.toNat ≠ 34) (h4 : c.toNat ≠ 47) (h5 : ¬(c.toNat = 123 ∨ c.toNat = 125 ∨ c.toNat = 44 ∨ c.toNat = 61)) : Calls Tryz.prog 56 #[.string (bs (c :: r))] w fun e w' => e = .returned (XfL (one (c :: r))) ∧ Ext w w' := by
 rw [XoE c r h h2 h3 h4 h5]
 have y0 : ((c.toNat : Int) == 34) = false := by first | (rw [Xvg]; omega) | fail
 have y1 : ((c.toNat : Int) == 47) = false := by first | (rw [Xvg]; omega) | fail
 have y2 : ((c.toNat : Int) == 123) = false := by first | (rw [Xvg]; omega) | fail
 have y3 : ((c.toNat : Int) == 125) = false := by first | (rw [Xvg]; omega) | fail
 have y4 : ((c.toNat : Int) == 44) = false := by first | (rw [Xvg]; omega) | fail
 have y5 : ((c.toNat : Int) == 61) = false := by first | (rw [Xvg]; omega) | fail
 clear h3 h4 h5
 go_enter Tryz.func56, Tryz.ntmps56
 go_wp2_with fail
 refine Calls.mono (Xbz c _) ?_
 rintro e w1 ⟨rfl, rfl⟩
 rw [h]
 go_wp2_with fail
 refine Calls.mono (XbB c _) ?_
 rintro e w1 ⟨rfl, rfl⟩
 rw [h2]
 go_wp2_with fail
 refine bodyPost_ret (by simp [results, Tryz.results56, go_sem]; try rfl) rfl ?_
 exact ⟨by simp [XfL, Xco], (by repeat (first | (with_reducible exact Below.refl _ _) | fail))⟩
set_option maxRecDepth 100000 in
set_option maxHeartbeats 8000000 in
theorem Xpj (c : UInt8) (r : List UInt8) (w : World) (hl : r.length ≤ 999999)  : Calls Tryz.prog 56 #[.string (bs (c :: r))] w fun e w' => e = .returned (XfL (one (c :: r))) ∧ Ext w w' := by
 cases h : Xb7 c with
 | true => exact XoG c r w hl h
 | false =>
  cases h2 : Xbk c with
  | true => exact Xp5 c r w hl h h2
  | false =>
   by_cases h3 : c.toNat = 34
   ·exact Xqt c r w hl h h2 h3
   by_cases h4 : c.toNat = 47
   ·exact Xpe c r w hl h h2 h4
   by_cases h5 : c.toNat = 123
   ·exact Xjm c r w hl h h2 h5
   by_cases h6 : c.toNat = 125
   ·exact Xjt c r w hl h h2 h6
   by_cases h7 : c.toNat = 44
   ·exact XjZ c r w hl h h2 h7
   by_cases h8 : c.toNat = 61
   ·exact Xj2 c r w hl h h2 h8
   exact XpR c r w hl h h2 h3 h4 (by omega)
theorem Xq9 {P : Program} {f : FuncId} {args : List Value} {v : Value} (h : ∀ w, Calls P f args.toArray w fun e w' => e = .returned v ∧ w' = w) (H : List Hp) : Xa8 P f H (args.map .x) fun r H' => r = .x v ∧ H' = H :=
 Xcn (fun w => (h w).mono fun e w' ⟨h1, h2⟩ => ⟨h1, h2 ▸ Below.refl _ _⟩) H
theorem Xk5 (l : List UInt8) (hl : l.length ≤ 1000000) : Xa8 Tryz.prog 54 [] [.x (.string (bs l))] (fun r H' => r = .x (.int .i64 (skp l : Nat)) ∧ H' = []) := Xq9 (args := [.string (bs l)]) (fun w => Xn1 l w hl) []
theorem XhU (l : List UInt8) (n : Nat) (hl : l.length ≤ 1000000) (hn : n ≤ l.length) : Xa8 Tryz.prog 55 [] [.x (.string (bs l)), .x (.int .i64 n)] (fun r H' => r = .tup [.x (.int .i64 ((plc (1, 1) (l.take n)).1 : Nat)), .x (.int .i64 ((plc (1, 1) (l.take n)).2 : Nat))] ∧ H' = []) :=
 (Xq9 (args := [.string (bs l), .int .i64 n]) (fun w => XlX l n w hl hn) []).weak fun r H' ⟨h1, h2⟩ => ⟨_, _, by subst h1 h2; exact XaK.mk' [] [] (XuZ _) XaE.nil (VwL.cons (Vw.tupx (l := [_, _]) (VwL.refl _ _)) VwL.nil), rfl, rfl⟩
def Xuk (x : Except Int (Int × List UInt8 × Nat)) : AV := match x with
 | .error e => .tup [.x (.int .i64 0), .x (.string (bs [])), .x (.int .i64 0), .x (.int .i64 e)]
 | .ok x => .tup [.x (.int .i64 x.1), .x (.string (bs x.2.1)), .x (.int .i64 (x.2.2 : Nat)), .x (.int .i64 0)]
theorem XuG (l : List UInt8) (hl : l.length ≤ 1000000) (h0 : l ≠ []) : Xa8 Tryz.prog 56 [] [.x (.string (bs l))] (fun r H' => r = Xuk (one l) ∧ H' = []) := by
 cases l with
 | nil => exact absurd rfl h0
 | cons c r =>
  refine (Xcn (args := [.string (bs (c :: r))]) (fun w => Xpj c r w (by simp at hl; omega)) []).weak fun q H' ⟨h1, h2⟩ => ?_
  subst h1 h2
  refine ⟨_, _, XaK.mk' [] [] (XuZ _) XaE.nil (VwL.cons ?_ VwL.nil), rfl, rfl⟩
  unfold Xuk XfL
  cases one (c :: r) with
  | error e => exact Vw.tupx (l := [_, _, _, _]) (VwL.refl _ _)
  | ok x => exact Vw.tupx (l := [_, _, _, _]) (VwL.refl _ _)
def Tok.cells (t : Tok) : List AV := [.x (.int .i64 t.kind), .x (.string (bs t.text)), .x (.int .i64 (t.line : Nat)), .x (.int .i64 (t.col : Nat))]
def ta (l : List Tok) : List AV := l.flatMap Tok.cells
@[simp] theorem XuP (l : List Tok) : (ta l).length = l.length * 4 := by
 induction l with
 | nil => rfl
 | cons j l ih => simp only [ta, List.flatMap_cons, Xvb, Xu2] at ih ⊢; rw [ih]; simp [Tok.cells]; omega
theorem Xlb (l m : List Tok) : ta (l ++ m) = ta l ++ ta m := by simp [ta]
theorem XeC (l : List Tok) (k : Nat) (h : k < l.length) : (ta l).drop (k * 4) = l[k].cells ++ ta (l.drop (k + 1)) := by
 induction l generalizing k with
 | nil => simp at h
 | cons j l ih =>
  have hc : j.cells.length = 4 := rfl
  cases k with
  | zero => simp [ta]
  | succ k =>
   simp only [ta, List.flatMap_cons, List.drop_succ_cons, List.getElem_cons_succ] at ih ⊢
   rw [show (k + 1) * 4 = 4 + k * 4 from by omega, ← List.drop_drop, List.drop_append_of_le_length (by omega), show j.cells.drop 4 = [] from rfl, Xu9]
   exact ih k (by simpa using h)
def XdZ : Except Flt (List Tok) → List Tok | .ok l => l | .error _ => []
def XhF : Except Flt (List Tok) → Flt | .ok _ => ⟨0, 0, 0⟩ | .error f => f
def Flt.av (f : Flt) : AV := .x (.agg #[.int .i64 f.code, .int .i64 (f.line : Nat), .int .i64 (f.col : Nat)])
theorem Xcj (l : List UInt8) (k : Nat) : (k : Int) + (skp (l.drop k) : Nat) = (nxk l k : Nat) := by unfold nxk; omega
theorem XoV {l : List UInt8} {e : Int} (h : one l = .error e) : 50 ≤ e ∧ e ≤ 53 := by
 cases l with
 | nil => simp [one] at h; omega
 | cons c r =>
  simp only [one] at h
  repeat' (first | (split at h) | (cases h; done) | (cases h; omega) | fail)
  all_goals (first | (cases h; omega) | fail)
set_option maxRecDepth 100000 in
set_option maxHeartbeats 8000000 in
theorem XsP (l : List UInt8) (hl : l.length ≤ 1000000) : Xa8 Tryz.prog 27 [] [.x (.string (bs l))] (fun r H' => r = .tup [.sq (XdZ (lex l)).length (ta (XdZ (lex l))), (XhF (lex l)).av] ∧ H' = []) := by
 refine XaG Tryz.func27 rfl ?_
 simp only [Tryz.ntmps27, Xu2, Xu5, Xu6, Xu7, Xva, Xu9, Nat.reduceAdd, Nat.reduceSub]
 (repeat' (first | with_reducible (first | refine Xah ?_ | refine Xac ?_ | refine Xan ?_ | refine Xat ?_ | refine Xax ?_ | refine Xae ?_ | refine Xaa ?_ | refine Xaw ?_) | (refine Xai _ rfl (fun h => ?_) (fun h => ?_) <;> ((try (simp only [whn] at h)); skip)) | ((apply Xad rfl); (case h => ((first | (apply Xab 0 rfl; (first | exact Xar _ rfl | exact Xao _ rfl)) | (apply Xab 10 rfl; (exact XaU _ _ _ _ _ rfl HPl.out (by first | rfl | fail) rfl)) | (apply XaF; (case hs => (intro _ _ h; cases h)); (case hx => rfl); (case hrun => (intro w; simp [wtb, AV.val, go_sem]; skip; rfl)))))); (case hT => ((try simp only [wtn, ↓reduceIte]); rfl))) | (refine Xaj rfl ?_; ((first | (refine Xaq 14 rfl ?_; ((refine XaN _ _ rfl Xbp.out rfl (fun b => ?_)))) | (refine Xaq 16 rfl ?_; ((refine Xau _ _ _ _ _ _ _ rfl rfl XaZ.out XaR.out (by first | rfl | fail) (by first | exact XuY rfl | fail) ?_)))); apply Xak; (case hT => ((try simp only [wtn]); rfl)); (case hH => ((try simp only [wtn, Nat.reduceAdd]); rfl)))) | fail))
 case hK.h.hK.hK.hK.refine_1.hK.hK.h =>
  have e : lex l = .error ⟨1, 0, 0⟩ := by unfold lex; rw [if_pos (by omega)]
  rw [e]
  refine Xaf _ _ (Xc2 rfl (RV.tmp _) (RV.cell 0 rfl rfl XaO.out (by simp) (by simp)) (XaK.mk' [_] [] (XuZ _) XaE.nil (VwL.cons Vw.nil (VwL.refl _ _)))) ?_
  exact ⟨rfl, rfl⟩
 have hlex : lex l = Xce (1, 1) 0 l := by unfold lex; rw [if_neg (by omega)]
 rw [hlex]
 refine XbA 111 4 ?_
 refine XaT (S := Nat × List Tok × Option Addr × Nat) (fun s => frm 72 [(0, .x (.string (bs l))), (3, .x (.pointer (some ⟨b, 0, none⟩))), (4, .x (.slice s.2.2.1 s.2.1.length s.2.2.2)), (5, .x (.int .i64 s.1))])
  (fun s => [.row s.2.2.1 s.2.1.length s.2.2.2 111 4 (ta s.2.1), .box b [.x (.int .i64 0), .x (.int .i64 0), .x (.int .i64 0)]]) (fun s => Xjd l s.1 s.2.1) (fun s => l.length - s.1) (0, [], none, 0) ?a (Xjd.start l) fun s hs => ?_
 case a => exact (XaK.mk' [] _ (XuZ _) (XaE.refl _ _) (by (repeat' (first | exact VwL.nil | (refine VwL.cons ?_ ?_) | exact Vw.refl _ | exact Vw.top _ | fail))))
 obtain ⟨k, ts, ad, cap⟩ := s
 simp only at hs
 have hk := hs.le
 have hnk := Xrf (l := l) hk
 have hcn := hs.cnt
 have hk2 : k ≤ nxk l k := by unfold nxk; omega
 have hsk : k + skp (l.drop k) ≤ l.length := hnk
 have hs' := Lib.hid hs
 have hlex' := Lib.hid hlex
 clear hs hlex
 simp only [frm, Xu6, Xu7, Xu0, Xu1, Xvd, Xve]
 by_cases he : l.length ≤ nxk l k
 ·have hfin := Lib.hid (hs'.out.fin he)
  (repeat' (first | with_reducible (first | refine Xah ?_ | refine Xac ?_ | refine Xan ?_ | refine Xat ?_ | refine Xae ?_ | refine Xaa ?_ | refine Xaw ?_ | refine Xav ?_) | (refine Xai _ rfl (fun h => ?_) (fun h => ?_) <;> ((try (simp only [whn] at h)); first | (exfalso; omega; done) | skip)) | ((apply Xad rfl); (case h => ((first | (apply Xab 0 rfl; (first | exact Xar _ rfl | exact Xao _ rfl)) | (apply Xab 2 rfl; (exact XaL _ _ _ _ rfl rfl rfl)) | (apply Xab 9 rfl; (exact Xa0 _ _ _ _ _ _ _ rfl rfl (by kernel_rfl) (by first | exact .inr ⟨_, _, rfl, rfl⟩ | fail) (by first | exact .inl ⟨rfl, rfl⟩ | fail) (by omega) (by omega))) | (apply Xab 10 rfl; (exact XaU _ _ _ _ _ rfl HPl.out (by first | rfl | fail) rfl)) | (apply Xab 11 rfl; (first | exact Xaz 54 Tryz.f54 _ _ rfl rfl Tryz.func54 (by decide) rfl (VwL.refl _ _) (Xk5 (l.drop k) (by simp; omega)) | exact Xaz 55 Tryz.f55 _ _ rfl rfl Tryz.func55 (by decide) rfl (VwL.refl _ _) (XhU l (nxk l k) hl hnk))) | (apply XaF; (case hs => (intro _ _ h; cases h)); (case hx => rfl); (case hrun => (intro w; simp [wtb, AV.val, go_sem]; (try go_bits); rfl)))))); (case hT => ((try simp (disch := omega) only [wtn, List.take_length, Xcj, Xu3, Xu0, Xu1, Xu4, Xu8, Nat.reduceAdd, Nat.reduceMul, Nat.reduceSub, ↓reduceIte, Nat.reduceEqDiff]); rfl))) | (refine Xaj rfl ?_; ((first | (refine Xaq 13 rfl ?_; ((refine XaH _ _ _ _ _ _ _ _ _ _ _ _ _ _ rfl rfl XbD.out (Src.row _ rfl XbD.out) XaQ.out (by first | rfl | fail) (XcD _ _ (by omega) (by decide)) (fun ad cap => ?_)))) | (refine Xaq 16 rfl ?_; ((refine Xau _ _ _ _ _ _ _ rfl rfl XaZ.out XaR.out (by first | rfl | fail) (by first | exact XuY rfl | fail) ?_))) | (refine Xaq 17 rfl ?_; ((refine XaB _ _ _ _ _ _ _ _ rfl XaQ.out (by first | rfl | fail) rfl (by decide) rfl (fun b => ?_))))); apply Xak; (case hT => ((try simp (disch := omega) only [wtn, List.take_length, Xcj, Xu3, Xu0, Xu1, Xu4, Xu8, Nat.reduceAdd, Nat.reduceMul, Nat.reduceSub, ↓reduceIte, Nat.reduceEqDiff]); rfl)); (case hH => ((try simp (disch := omega) only [wtn, List.take_length, Xcj, Xu3, Xu0, Xu1, Xu4, Xu8, Nat.reduceAdd, Nat.reduceMul, Nat.reduceSub, ↓reduceIte, Nat.reduceEqDiff]); rfl)))) | fail))
  rw [hfin.out]
  refine Xaf _ _ (Xc2 rfl (RV.tmp _) (RV.cell 2 rfl rfl XaO.out (by simp) (by simp)) (XaK.mk' [_, _, _] [] (XuZ _) XaE.nil (VwL.cons (Vw.row (List.Mem.tail _ (List.Mem.head _)) (VwL.refl _ _)) (VwL.refl _ _)))) ?_
  refine ⟨?_, rfl⟩
  simp only [XdZ, XhF, Flt.av, Xlb, Xvb, Xu2, Xu5]
  rfl
 ·obtain ⟨c, r, hc1, hc2⟩ := hs'.out.cons (by omega)
  have ho := XuG (l.drop (nxk l k)) (by simp; omega) (by rw [hc1]; simp)
  have hkl : nxk l k < l.length := by omega
  cases h1 : one (l.drop (nxk l k)) with
  | error e =>
   have he1 := XoV h1
   have hb := Lib.hid (hs'.out.bad hc2 (by rw [← hc1]; exact h1))
   rw [h1] at ho
   simp only [Xuk] at ho
   clear hc1 hc2 h1
   (repeat' (first | with_reducible (first | refine Xah ?_ | refine Xac ?_ | refine Xan ?_ | refine Xat ?_ | refine Xax ?_ | refine Xae ?_ | refine Xaa ?_ | refine Xaw ?_ | refine Xav ?_) | (refine Xai _ rfl (fun h => ?_) (fun h => ?_) <;> ((try (simp only [whn] at h)); first | (exfalso; omega; done) | skip)) | ((first | apply Xad rfl | apply Xa7 _ _ rfl rfl rfl); (case h => ((try (intro (hp : (_ : Bool) = true); ((try simp only [hp]); (try simp only [whn] at hp)))); (first | (apply Xab 0 rfl; (first | exact Xar _ rfl | exact Xao _ rfl)) | (apply Xab 1 rfl; (exact Xbn _ _ _ _ _ rfl rfl rfl rfl)) | (apply Xab 2 rfl; (exact XaL _ _ _ _ rfl rfl rfl)) | (apply Xab 9 rfl; (exact Xa0 _ _ _ _ _ _ _ rfl rfl (by kernel_rfl) (by first | exact .inr ⟨_, _, rfl, rfl⟩ | fail) (by first | exact .inl ⟨rfl, rfl⟩ | fail) (by omega) (by omega))) | (apply Xab 10 rfl; (exact XaU _ _ _ _ _ rfl HPl.out (by first | rfl | fail) rfl)) | (apply Xab 11 rfl; (first | exact Xaz 54 Tryz.f54 _ _ rfl rfl Tryz.func54 (by decide) rfl (VwL.refl _ _) (Xk5 (l.drop k) (by simp; omega)) | exact Xaz 55 Tryz.f55 _ _ rfl rfl Tryz.func55 (by decide) rfl (VwL.refl _ _) (XhU l (nxk l k) hl hnk) | exact Xaz 56 Tryz.f56 _ _ rfl rfl Tryz.func56 (by decide) rfl (VwL.refl _ _) (ho))) | (apply XaF; (case hs => (intro _ _ h; cases h)); (case hx => rfl); (case hrun => (intro w; simp [wtb, AV.val, go_sem]; (try go_bits); rfl)))))); (case hT => ((try simp (disch := omega) only [wtn, List.take_length, Xcj, Xu3, Xu0, Xu1, Xu4, Xu8, Nat.reduceAdd, Nat.reduceMul, Nat.reduceSub, ↓reduceIte, Nat.reduceEqDiff]); rfl))) | (refine Xaj rfl ?_; (((refine Xaq 16 rfl ?_; ((refine Xau _ _ _ _ _ _ _ rfl rfl XaZ.out XaR.out (by first | rfl | fail) (by first | exact XuY rfl | fail) ?_)))); apply Xak; (case hT => ((try simp (disch := omega) only [wtn, List.take_length, Xcj, Xu3, Xu0, Xu1, Xu4, Xu8, Nat.reduceAdd, Nat.reduceMul, Nat.reduceSub, ↓reduceIte, Nat.reduceEqDiff]); rfl)); (case hH => ((try simp (disch := omega) only [wtn, List.take_length, Xcj, Xu3, Xu0, Xu1, Xu4, Xu8, Nat.reduceAdd, Nat.reduceMul, Nat.reduceSub, ↓reduceIte, Nat.reduceEqDiff]); rfl)))) | fail))
   rw [hb.out]
   refine Xaf _ _ (Xc2 rfl (RV.tmp _) (RV.cell 1 rfl rfl XaO.out (by simp) (by simp)) (XaK.mk' [_, _] [] (XuZ _) XaE.nil (VwL.cons Vw.nil (VwL.refl _ _)))) ?_
   exact ⟨rfl, rfl⟩
  | ok x =>
   obtain ⟨a, t, m⟩ := x
   rw [h1] at ho
   simp only [Xuk] at ho
   obtain ⟨g1, g2, g3, g4⟩ := XfD h1
   simp only [List.length_drop] at g1 g2 g3
   by_cases hf : 2000 ≤ ts.length
   ·have hb := Lib.hid (hs'.out.full hc2 (by rw [← hc1]; exact h1) hf)
    clear hc1 hc2 h1
    (repeat' (first | with_reducible (first | refine Xah ?_ | refine Xac ?_ | refine Xan ?_ | refine Xat ?_ | refine Xax ?_ | refine Xae ?_ | refine Xaa ?_ | refine Xaw ?_ | refine Xav ?_) | (refine Xai _ rfl (fun h => ?_) (fun h => ?_) <;> first | (exact absurd h (by decide)) | ((try (simp only [whn] at h)); first | (exfalso; omega; done) | skip)) | ((first | apply Xad rfl | apply Xa7 _ _ rfl rfl rfl); (case h => ((try (intro (hp : (_ : Bool) = true); ((try simp only [] at hp); skip; skip))); (first | (apply Xab 0 rfl; (first | exact Xar _ rfl | exact Xao _ rfl)) | (apply Xab 1 rfl; (exact XbG _ _ _ rfl rfl)) | (apply Xab 2 rfl; (exact XaL _ _ _ _ rfl rfl rfl)) | (apply Xab 9 rfl; (exact Xa0 _ _ _ _ _ _ _ rfl rfl (by kernel_rfl) (by first | exact .inr ⟨_, _, rfl, rfl⟩ | fail) (by first | exact .inl ⟨rfl, rfl⟩ | fail) (by omega) (by omega))) | (apply Xab 10 rfl; (exact XaU _ _ _ _ _ rfl HPl.out (by first | rfl | fail) rfl)) | (apply Xab 11 rfl; (first | exact Xaz 54 Tryz.f54 _ _ rfl rfl Tryz.func54 (by decide) rfl (VwL.refl _ _) (Xk5 (l.drop k) (by simp; omega)) | exact Xaz 55 Tryz.f55 _ _ rfl rfl Tryz.func55 (by decide) rfl (VwL.refl _ _) (XhU l (nxk l k) hl hnk) | exact Xaz 56 Tryz.f56 _ _ rfl rfl Tryz.func56 (by decide) rfl (VwL.refl _ _) (ho))) | (apply XaF; (case hs => (intro _ _ h; cases h)); (case hx => rfl); (case hrun => (intro w; simp [wtb, AV.val, go_sem]; (try go_bits); rfl)))))); (case hT => ((try simp (disch := omega) only [wtn, List.take_length, Xcj, Xu3, Xu0, Xu1, Xu4, Xu8, Nat.reduceAdd, Nat.reduceMul, Nat.reduceSub, ↓reduceIte, Nat.reduceEqDiff]); rfl))) | (refine Xaj rfl ?_; (((refine Xaq 16 rfl ?_; ((refine Xau _ _ _ _ _ _ _ rfl rfl XaZ.out XaR.out (by first | rfl | fail) (by first | exact XuY rfl | fail) ?_)))); apply Xak; (case hT => ((try simp (disch := omega) only [wtn, List.take_length, Xcj, Xu3, Xu0, Xu1, Xu4, Xu8, Nat.reduceAdd, Nat.reduceMul, Nat.reduceSub, ↓reduceIte, Nat.reduceEqDiff]); rfl)); (case hH => ((try simp (disch := omega) only [wtn, List.take_length, Xcj, Xu3, Xu0, Xu1, Xu4, Xu8, Nat.reduceAdd, Nat.reduceMul, Nat.reduceSub, ↓reduceIte, Nat.reduceEqDiff]); rfl)))) | fail))
    rw [hb.out]
    refine Xaf _ _ (Xc2 rfl (RV.tmp _) (RV.cell 1 rfl rfl XaO.out (by simp) (by simp)) (XaK.mk' [_, _] [] (XuZ _) XaE.nil (VwL.cons Vw.nil (VwL.refl _ _)))) ?_
    exact ⟨rfl, rfl⟩
   ·have hb := Lib.hid (hs'.out.next hc2 (by rw [← hc1]; exact h1) (by omega))
    clear hc1 hc2 h1
    (repeat' (first | with_reducible (first | refine Xah ?_ | refine Xac ?_ | refine Xan ?_ | refine Xax ?_ | refine Xae ?_ | refine Xaa ?_ | refine Xag ?_) | (refine Xai _ rfl (fun h => ?_) (fun h => ?_) <;> first | (exact absurd h (by decide)) | ((try (simp only [whn] at h)); first | (exfalso; omega; done) | skip)) | ((first | apply Xad rfl | apply Xa7 _ _ rfl rfl rfl); (case h => ((try (intro (hp : (_ : Bool) = true); ((try simp only [] at hp); skip; skip))); (first | (apply Xab 0 rfl; (first | exact Xar _ rfl | exact Xao _ rfl)) | (apply Xab 1 rfl; (exact XbG _ _ _ rfl rfl)) | (apply Xab 2 rfl; (exact XaL _ _ _ _ rfl rfl rfl)) | (apply Xab 9 rfl; (exact Xa0 _ _ _ _ _ _ _ rfl rfl (by kernel_rfl) (by first | exact .inr ⟨_, _, rfl, rfl⟩ | fail) (by first | exact .inl ⟨rfl, rfl⟩ | fail) (by omega) (by omega))) | (apply Xab 10 rfl; (exact XaU _ _ _ _ _ rfl HPl.out (by first | rfl | fail) rfl)) | (apply Xab 11 rfl; (first | exact Xaz 54 Tryz.f54 _ _ rfl rfl Tryz.func54 (by decide) rfl (VwL.refl _ _) (Xk5 (l.drop k) (by simp; omega)) | exact Xaz 55 Tryz.f55 _ _ rfl rfl Tryz.func55 (by decide) rfl (VwL.refl _ _) (XhU l (nxk l k) hl hnk) | exact Xaz 56 Tryz.f56 _ _ rfl rfl Tryz.func56 (by decide) rfl (VwL.refl _ _) (ho))) | (apply XaF; (case hs => (intro _ _ h; cases h)); (case hx => rfl); (case hrun => (intro w; simp [wtb, AV.val, go_sem]; (try go_bits); rfl)))))); (case hT => ((try simp (disch := omega) only [wtn, List.take_length, Xcj, Xu3, Xu0, Xu1, Xu4, Xu8, Nat.reduceAdd, Nat.reduceMul, Nat.reduceSub, ↓reduceIte, Nat.reduceEqDiff]); rfl))) | (refine Xaj rfl ?_; ((first | (refine Xaq 13 rfl ?_; ((refine XaH _ _ _ _ _ _ _ _ _ _ _ _ _ _ rfl rfl XbD.out (Src.row _ rfl XbD.out) XaQ.out (by first | rfl | fail) (XcD _ _ (by omega) (by decide)) (fun ad cap => ?_)))) | (refine Xaq 17 rfl ?_; ((refine XaB _ _ _ _ _ _ _ _ rfl XaQ.out (by first | rfl | fail) rfl (by decide) rfl (fun b => ?_))))); apply Xak; (case hT => ((try simp (disch := omega) only [wtn, List.take_length, Xcj, Xu3, Xu0, Xu1, Xu4, Xu8, Nat.reduceAdd, Nat.reduceMul, Nat.reduceSub, ↓reduceIte, Nat.reduceEqDiff]); rfl)); (case hH => ((try simp (disch := omega) only [wtn, List.take_length, Xcj, Xu3, Xu0, Xu1, Xu4, Xu8, Nat.reduceAdd, Nat.reduceMul, Nat.reduceSub, ↓reduceIte, Nat.reduceEqDiff]); rfl)))) | fail))
    refine ⟨(nxk l k + m, _, ad, cap), by simp only; omega, hb.out, ?_⟩
    simp only [Xlb, Xvb, Xu2, Xu5]
    exact (XaK.mk' [_] [_, _] (XuZ _) (XaE.refl _ _) (by (repeat' (first | exact VwL.nil | (refine VwL.cons ?_ ?_) | exact Vw.refl _ | exact Vw.top _ | fail))))
def pc (ts : List Tok) (k : Nat) (e l c : Int) (sv : AV) : List AV := [.sq ts.length (ta ts), .x (.int .i64 k), .x (.int .i64 e), .x (.int .i64 l), .x (.int .i64 c), sv]
def Tok.av (t : Tok) : AV := .x (.agg #[.int .i64 t.kind, .string (bs t.text), .int .i64 (t.line : Nat), .int .i64 (t.col : Nat)])
set_option maxRecDepth 100000 in
set_option maxHeartbeats 8000000 in
theorem Xj9 (ts : List Tok) (k : Nat) (e l c : Int) (sv : AV) (hk : k < ts.length) (hl : ts.length ≤ 1000000) : Xa8 Tryz.prog 187 [] [.at_ (pc ts k e l c sv)] (fun r H' => r = ts[k].av ∧ H' = []) := by
 unfold pc
 refine XaG Tryz.func187 rfl ?_
 simp only [Tryz.ntmps187, Xu2, Xu5, Xu6, Xu7, Xva, Xu9, Nat.reduceAdd, Nat.reduceSub]
 (repeat' (first | with_reducible (first | refine Xah ?_ | refine Xac ?_ | refine Xae ?_ | refine Xaa ?_) | (refine Xaj rfl ?_; (((refine Xaq 14 rfl ?_; ((refine XaN _ _ rfl Xbp.out rfl (fun b => ?_))))); apply Xak; (case hT => ((try simp only [wtn]); rfl)); (case hH => ((try simp only [wtn]); rfl)))) | fail))
 refine XcF Xbd ?_
 (apply Xbm 0 rfl rfl (by kernel_rfl) (by intro c T H hp; simp [XaP, Xas, XaV, Xbx] at hp); (case h => (first | exact Xbh _ rfl | fail)); (apply Xay; (case hT => ((try simp only [wtn]); rfl)); (case hH => rfl))); (apply Xbm 1 rfl rfl (by kernel_rfl) (by intro c T H hp; simp [XaP, Xas, XaV, Xbx] at hp); (case h => (first | exact Xgp _ _ rfl rfl | fail)); (apply Xay; (case hT => ((try simp only [wtn]); rfl)); (case hH => rfl))); (apply Xbm 2 rfl rfl (by kernel_rfl) (by intro c T H hp; simp [XaP, Xas, XaV, Xbx] at hp); (case h => (first | exact XeN _ _ _ _ _ rfl rfl Xa6.out | fail)); (apply Xay; (case hT => ((try simp only [wtn]); rfl)); (case hH => rfl))); (apply Xbm 4 rfl rfl (by kernel_rfl) (by intro c T H hp; simp [XaP, Xas, XaV, Xbx] at hp); (case h => (first | exact Xbh _ rfl | fail)); (apply Xay; (case hT => ((try simp only [wtn]); rfl)); (case hH => rfl))); (apply Xbm 5 rfl rfl (by kernel_rfl) (by intro c T H hp; simp [XaP, Xas, XaV, Xbx] at hp); (case h => (first | exact Xgp _ _ rfl rfl | fail)); (apply Xay; (case hT => ((try simp only [wtn]); rfl)); (case hH => rfl))); (apply Xbm 6 rfl rfl (by kernel_rfl) (by intro c T H hp; simp [XaP, Xas, XaV, Xbx] at hp); (case h => (first | exact XeN _ _ _ _ _ rfl rfl Xa6.out | fail)); (apply Xay; (case hT => ((try simp only [wtn]); rfl)); (case hH => rfl)))
 refine Xra 3 7 (by decide +kernel) rfl rfl rfl rfl ?_ ?_
 ·(first | (apply Xa9; (case h => ((apply Xab 6 rfl; (exact XaD _ _ _ _ _ rfl rfl XaO.out (by first | exact XuY rfl | fail) (by first | exact XuY rfl | fail))))); (apply Xay; (case hT => ((try simp only [wtn]); rfl)); (case hH => rfl))) | fail)
  (refine Xbr 7 (by decide +kernel) rfl rfl ?_; (first | (apply Xa9; (case h => ((apply Xab 6 rfl; (exact XaD _ _ _ _ _ rfl rfl XaO.out (by first | exact XuY rfl | fail) (by first | exact XuY rfl | fail))))); (apply Xay; (case hT => ((try simp only [wtn]); rfl)); (case hH => rfl))) | fail))
  (repeat ((first | refine Xbr 8 (by decide +kernel) rfl rfl ?_ | refine Xbr 9 (by decide +kernel) rfl rfl ?_ | refine Xbr 10 (by decide +kernel) rfl rfl ?_ | fail); (first | (apply Xa9; (case h => (first | (apply Xab 6 rfl; (exact XaD _ _ _ _ _ rfl rfl XaO.out (by first | exact XuY rfl | fail) (by first | exact XuY rfl | fail))) | (apply Xab 7 rfl; (exact XaC _ _ _ _ _ _ _ _ _ _ rfl rfl rfl HEl.out rfl (by first | omega | fail) (by simp; first | omega | fail))))); (apply Xay; (case hT => ((try simp (disch := assumption) only [wtn, XeC, Tok.cells, Xu3, Xu0, Xu1, Xu4, Xu8, Nat.reduceAdd, Nat.reduceMul, Nat.reduceSub, ↓reduceIte, Nat.reduceEqDiff]); rfl)); (case hH => rfl))) | (((refine Xaq 16 rfl ?_; ((refine Xau _ _ _ _ _ _ _ rfl rfl XaZ.out XaR.out (by first | rfl | fail) (by first | exact XuY rfl | fail) ?_)))); apply Xay; (case hT => ((try simp (disch := omega) only [wtn, XeC, Tok.cells, Xu3, Xu0, Xu1, Xu4, Xu8, Nat.reduceAdd, Nat.reduceMul, Nat.reduceSub, ↓reduceIte, Nat.reduceEqDiff]); rfl)); (case hH => ((try simp (disch := omega) only [wtn, XeC, Tok.cells, Xu3, Xu0, Xu1, Xu4, Xu8, Nat.reduceAdd, Nat.reduceMul, Nat.reduceSub, ↓reduceIte, Nat.reduceEqDiff]); rfl))) | fail)))
  refine Xa3 (by decide +kernel) ?_
  (repeat' (first | with_reducible (first | refine Xat ?_ | refine Xaa ?_) | fail))
  refine Xaf _ _ (Xbl rfl (RV.cell 0 rfl rfl XaO.out (by simp) (by simp)) (XaK.mk' [_] [] (XuZ _) XaE.nil (VwL.refl _ _))) ?_
  exact ⟨rfl, rfl⟩
 ·(first | (apply Xa9; (case h => ((apply Xab 6 rfl; (exact XaD _ _ _ _ _ rfl rfl XaO.out (by first | exact XuY rfl | fail) (by first | exact XuY rfl | fail))))); (apply Xay; (case hT => ((try simp only [wtn]); rfl)); (case hH => rfl))) | fail)
  (refine Xbr 3 (by decide +kernel) rfl rfl ?_; (first | (apply Xa9; (case h => ((apply Xab 6 rfl; (exact XaD _ _ _ _ _ rfl rfl XaO.out (by first | exact XuY rfl | fail) (by first | exact XuY rfl | fail))))); (apply Xay; (case hT => ((try simp only [wtn]); rfl)); (case hH => rfl))) | fail))
  (repeat ((first | refine Xbr 8 (by decide +kernel) rfl rfl ?_ | refine Xbr 9 (by decide +kernel) rfl rfl ?_ | refine Xbr 10 (by decide +kernel) rfl rfl ?_ | fail); (first | (apply Xa9; (case h => (first | (apply Xab 6 rfl; (exact XaD _ _ _ _ _ rfl rfl XaO.out (by first | exact XuY rfl | fail) (by first | exact XuY rfl | fail))) | (apply Xab 7 rfl; (exact XaC _ _ _ _ _ _ _ _ _ _ rfl rfl rfl HEl.out rfl (by first | omega | fail) (by simp; first | omega | fail))))); (apply Xay; (case hT => ((try simp (disch := assumption) only [wtn, XeC, Tok.cells, Xu3, Xu0, Xu1, Xu4, Xu8, Nat.reduceAdd, Nat.reduceMul, Nat.reduceSub, ↓reduceIte, Nat.reduceEqDiff]); rfl)); (case hH => rfl))) | (((refine Xaq 16 rfl ?_; ((refine Xau _ _ _ _ _ _ _ rfl rfl XaZ.out XaR.out (by first | rfl | fail) (by first | exact XuY rfl | fail) ?_)))); apply Xay; (case hT => ((try simp (disch := omega) only [wtn, XeC, Tok.cells, Xu3, Xu0, Xu1, Xu4, Xu8, Nat.reduceAdd, Nat.reduceMul, Nat.reduceSub, ↓reduceIte, Nat.reduceEqDiff]); rfl)); (case hH => ((try simp (disch := omega) only [wtn, XeC, Tok.cells, Xu3, Xu0, Xu1, Xu4, Xu8, Nat.reduceAdd, Nat.reduceMul, Nat.reduceSub, ↓reduceIte, Nat.reduceEqDiff]); rfl))) | fail)))
  refine Xa3 (by decide +kernel) ?_
  (repeat' (first | with_reducible (first | refine Xat ?_ | refine Xaa ?_) | fail))
  refine Xaf _ _ (Xbl rfl (RV.cell 0 rfl rfl XaO.out (by simp) (by simp)) (XaK.mk' [_] [] (XuZ _) XaE.nil (VwL.refl _ _))) ?_
  exact ⟨rfl, rfl⟩
set_option maxRecDepth 100000 in
set_option maxHeartbeats 8000000 in
theorem Xca (ts : List Tok) (k : Nat) (e l c : Int) (sv : AV) : Xa8 Tryz.prog 189 [] [.at_ (pc ts k e l c sv)] (fun r H' => r = .x (.bool (!(e == 0))) ∧ H' = []) := by
 unfold pc
 refine XaG Tryz.func189 rfl ?_
 simp only [Tryz.ntmps189, Xu2, Xu5, Xu6, Xu7, Xva, Xu9, Nat.reduceAdd, Nat.reduceSub]
 (repeat' (first | with_reducible (first | refine Xah ?_ | refine Xac ?_ | refine Xat ?_ | refine Xae ?_ | refine Xaa ?_) | ((apply Xad rfl); (case h => ((first | (apply Xab 0 rfl; (first | exact Xar _ rfl | exact Xao _ rfl)) | (apply Xab 4 rfl; (exact Xbf _ rfl (by first | exact .inr ⟨_, rfl⟩ | fail))) | (apply Xab 5 rfl; (exact Xbe _ _ _ _ _ rfl rfl Xa6.out)) | (apply Xab 6 rfl; (exact XaD _ _ _ _ _ rfl rfl XaO.out (by first | exact XuY rfl | fail) (by first | exact XuY rfl | fail))) | (apply XaF; (case hs => (intro _ _ h; cases h)); (case hx => rfl); (case hrun => (intro w; simp [wtb, AV.val, go_sem]; skip; rfl)))))); (case hT => ((try simp only [wtn]); rfl))) | fail))
 refine Xaf _ _ (Xbl rfl (RV.tmp _) (XaK.mk' [] _ (XuZ _) (XaE.refl _ _) (VwL.refl _ _))) ?_
 exact ⟨rfl, rfl⟩
def isP (ts : List Tok) (k : Nat) (e : Int) (kind : Int) (s : List UInt8) : Bool := e == 0 && (match ts[k]? with | some t => t.kind == kind && t.text == s | none => false)
set_option maxRecDepth 100000 in
set_option maxHeartbeats 8000000 in
theorem XuB (ts : List Tok) (k : Nat) (e l c : Int) (sv : AV) (kind : Int) (s : List UInt8) (hk : k < ts.length) (hl : ts.length ≤ 1000000) : Xa8 Tryz.prog 201 [] [.at_ (pc ts k e l c sv), .x (.int .i64 kind), .x (.string (bs s))] (fun r H' => r = .x (.bool (isP ts k e kind s)) ∧ H' = []) := by
 have hn := Xj9 ts k e l c sv hk hl
 have hf := Xca ts k e l c sv
 unfold Tok.av at hn
 refine XaG Tryz.func201 rfl ?_
 simp only [Tryz.ntmps201, Xu2, Xu5, Xu6, Xu7, Xva, Xu9, Nat.reduceAdd, Nat.reduceSub]
 (repeat' (first | with_reducible (first | refine Xah ?_ | refine Xac ?_ | refine Xat ?_ | refine Xae ?_ | refine Xaa ?_) | ((first | apply Xad rfl | apply Xa7 _ _ rfl rfl rfl); (case h => ((try (intro (hp : (_ : Bool) = true); ((try simp only [Bool.and_eq_true] at hp); (try simp only [hp, wte]); (try simp only [whn] at hp)))); (first | (apply Xab 0 rfl; (first | exact Xar _ rfl | exact Xao _ rfl)) | (apply Xab 1 rfl; (exact Xbn _ _ _ _ _ rfl rfl rfl rfl)) | (apply Xab 11 rfl; (first | exact Xaz 187 Tryz.f187 _ _ rfl rfl Tryz.func187 (by decide) rfl (VwL.refl _ _) (hn) | exact Xaz 189 Tryz.f189 _ _ rfl rfl Tryz.func189 (by decide) rfl (VwL.refl _ _) (hf))) | (apply XaF; (case hs => (intro _ _ h; cases h)); (case hx => rfl); (case hrun => (intro w; simp [wtb, AV.val, go_sem]; skip; rfl)))))); (case hT => ((try simp only [wtn]); rfl))) | fail))
 refine Xaf _ _ (Xbl rfl (RV.tmp _) (XaK.mk' [] _ (XuZ _) (XaE.refl _ _) (VwL.refl _ _))) ?_
 refine ⟨?_, rfl⟩
 simp [ev, isP, hk, Bool.and_assoc]
set_option maxRecDepth 100000 in
set_option maxHeartbeats 8000000 in
theorem Xls (l : List (List UInt8)) (s : List UInt8) (hl : l.length ≤ 1000000) : Xa8 Tryz.prog 206 [] [.sq l.length (sa l), .x (.string (bs s))] (fun r H' => r = .x (.bool (decide (s ∈ l))) ∧ H' = []) := by
 refine XaG Tryz.func206 rfl ?_
 simp only [Tryz.ntmps206, Xu2, Xu5, Xu6, Xu7, Xva, Xu9, Nat.reduceAdd, Nat.reduceSub]
 (repeat' (first | with_reducible (first | refine Xah ?_ | refine Xac ?_ | refine Xan ?_ | refine Xae ?_ | refine Xaa ?_) | ((apply Xad rfl); (case h => (((apply Xab 0 rfl; (exact Xao _ rfl))))); (case hT => ((try simp only [wtn]); rfl))) | fail))
 refine XaT (S := Nat) (fun k => frm 18 [(0, .sq l.length (sa l)), (1, .x (.string (bs s))), (5, .x (.int .i64 k))]) (fun _ => []) (fun k => k ≤ l.length ∧ s ∉ l.take k) (fun k => l.length - k) 0 (XaK.mk' [] _ (XuZ _) (XaE.refl _ _) (by (repeat' (first | exact VwL.nil | (refine VwL.cons ?_ ?_) | exact Vw.refl _ | exact Vw.top _ | fail)))) ⟨Nat.zero_le _, by simp⟩ fun k hk => ?_
 simp only [frm, Xu6, Xu7, Xu0, Xu1, Xvd, Xve]
 obtain ⟨hk, hn⟩ := hk
 have hn' := Lib.hid hn
 clear hn
 (repeat' (first | with_reducible (first | refine Xah ?_ | refine Xac ?_ | refine Xan ?_ | refine Xat ?_ | refine Xax ?_ | refine XaW ?_ | refine Xae ?_ | refine Xaa ?_ | refine XaM ?_ | refine Xaw ?_ | refine XaI ?_ | refine Xag ?_ | refine Xav ?_) | (refine Xai _ rfl (fun h => ?_) (fun h => ?_) <;> ((try (simp only [whn] at h)); skip)) | ((apply Xad rfl); (case h => ((first | (apply Xab 0 rfl; (first | exact Xar _ rfl | exact Xao _ rfl)) | (apply Xab 3 rfl; (exact XaX _ _ _ _ _ _ HEl.out rfl rfl)) | (apply Xab 6 rfl; (exact XaD _ _ _ _ _ rfl rfl XaO.out (by first | exact XuY rfl | fail) (by first | exact XuY rfl | fail))) | (apply Xab 7 rfl; (exact XaC _ _ _ _ _ _ _ _ _ _ rfl rfl rfl HEl.out rfl (by first | omega | fail) (by simp; first | omega | fail))) | (apply XaF; (case hs => (intro _ _ h; cases h)); (case hx => rfl); (case hrun => (intro w; simp [wtb, AV.val, go_sem]; (try go_bits); rfl)))))); (case hT => ((try simp (disch := assumption) only [wtn, Xds, Xu3, Xu0, Xu1, Xu4, Xu8, Nat.reduceAdd, Nat.reduceMul, Nat.reduceSub, ↓reduceIte, Nat.reduceEqDiff]); rfl))) | fail))
 ·refine Xaf _ _ (Xbl rfl (RV.tmp _) (XaK.mk' [] _ (XuZ _) (XaE.refl _ _) (VwL.refl _ _))) ?_
  exact ⟨by simp [ev, ← h], rfl⟩
 ·exact ⟨k + 1, by omega, ⟨by omega, by rw [Xa4 l k (by assumption)]; simp only [List.mem_append, List.mem_singleton, not_or]; exact ⟨hn'.out, fun e => h e.symm⟩⟩, (XaK.mk' [] _ (XuZ _) (XaE.refl _ _) (by (repeat' (first | exact VwL.nil | (refine VwL.cons ?_ ?_) | exact Vw.refl _ | exact Vw.top _ | fail))))⟩
 ·refine Xaf _ _ (Xbl rfl (RV.tmp _) (XaK.mk' [] _ (XuZ _) (XaE.refl _ _) (VwL.refl _ _))) ?_
  have hn := hn'.out
  rw [List.take_of_length_le (by omega)] at hn
  exact ⟨by simp [ev, hn], rfl⟩
end Go.Proofs.YtdpobjakdplljaaGreatDoor
