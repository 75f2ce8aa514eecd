import Derived.Test.YtdpobjakdplljaaGreatDoorW12
import Derived.Test.YtdpobjakdplljaaGreatDoorW39
import Derived.Test.YtdpobjakdplljaaGreatDoorW14
import Derived.Test.YtdpobjakdplljaaGreatDoorW6
import Derived.Test.YtdpobjakdplljaaGreatDoorW8
/- No token goes over a line's end. No program in sight. -/
set_option linter.unusedSimpArgs false
set_option linter.unusedVariables false
namespace Go.Proofs.YtdpobjakdplljaaGreatDoor
open Go.RowKit
def Xmy (l : List UInt8) : Prop := ∀ b ∈ l, b.toNat ≠ 10
theorem XcN : Xmy [] := fun b h => by cases h
theorem Xbv {c : UInt8} {r : List UInt8} (h : c.toNat ≠ 10) (hr : Xmy r) : Xmy (c :: r) := fun b hb => by
 rcases List.mem_cons.1 hb with rfl | hb
 ·exact h
 ·exact hr b hb
theorem XqQ {a b : List UInt8} (ha : Xmy a) (hb : Xmy b) : Xmy (a ++ b) := fun x hx => by
 rcases List.mem_append.1 hx with h | h
 ·exact ha x h
 ·exact hb x h
theorem Xli : ∀ (l : List UInt8) (p : Nat × Nat), Xmy l → plc p l = (p.1, p.2 + l.length)
 | [], p, _ => by simp [plc]
 | c :: r, p, h => by
  rw [plc, if_neg (h c (List.mem_cons_self ..)), Xli r _ (fun b hb => h b (List.mem_cons_of_mem _ hb))]
  simp; omega
theorem Xo4 {b : UInt8} {n : Nat} (h : XgP b = some n) : b.toNat ≠ 10 := by
 unfold XgP at h
 split at h
 ·omega
 ·split at h
  ·omega
  ·split at h
   ·omega
   ·cases h
theorem XmZ {l : List UInt8} {b : UInt8} {n : Nat} (h : Xev l = some (b, n)) : Xmy (l.take n) := by
 unfold Xev at h
 split at h
 ·cases h
 ·rename_i d r
  split at h
  ·cases h; exact Xbv (by omega) XcN
  ·split at h
   ·cases h; exact Xbv (by omega) XcN
   ·split at h
    ·cases h; exact Xbv (by omega) XcN
    ·split at h
     ·split at h
      ·split at h
       ·rename_i h1 h2
        cases h; exact Xbv (by omega) (Xbv (Xo4 h1) (Xbv (Xo4 h2) XcN))
       ·cases h
      ·cases h
     ·cases h
theorem XnV {l : List UInt8} {b : UInt8} {n : Nat} (h : part l = some (b, n)) : Xmy (l.take n) := by
 unfold part at h
 split at h
 ·cases h
 ·rename_i c r
  split at h
  ·cases h
  ·split at h
   ·cases h; exact Xbv (by omega) XcN
   ·cases he : Xev r with
    | none => rw [he] at h; cases h
    | some x => rw [he] at h; cases h; rw [List.take_succ_cons]; exact Xbv (by omega) (XmZ he)
theorem Xlw (l : List UInt8) : ∀ x, quo l = some x → Xmy (l.take x.2) := by
 match h : l with
 | [] => intro x hx; rw [XhS] at hx; cases hx
 | c :: r =>
  intro x hx
  by_cases h1 : c.toNat = 34
  ·rw [XgN c r h1] at hx; cases hx; exact Xbv (by omega) XcN
  ·cases hp : part (c :: r) with
   | none => rw [Xjj c r h1 hp] at hx; cases hx
   | some y =>
    obtain ⟨b, n⟩ := y
    have hle := Xh8 hp
    rw [Xej c r b n h1 hp] at hx
    cases hq : quo ((c :: r).drop n) with
    | none => rw [hq] at hx; cases hx
    | some z =>
     have := Xlw ((c :: r).drop n) z hq
     rw [hq] at hx; cases hx
     simp only
     rw [List.take_add]
     exact XqQ (XnV hp) this
termination_by l.length
decreasing_by subst h; simp; omega
theorem XfN (l : List UInt8) : ∀ x, sla l = some x → Xmy (l.take x.2) := by
 match h : l with
 | [] => intro x hx; rw [Xh1] at hx; cases hx
 | c :: r =>
  intro x hx
  by_cases h1 : c.toNat = 47
  ·rw [Xfw c r h1] at hx; cases hx; exact Xbv (by omega) XcN
  by_cases h2 : c.toNat < 32
  ·rw [Xh6 c r h2] at hx; cases hx
  by_cases h3 : c.toNat = 92
  ·match r, hx with
   | [], hx => rw [Xf0 c h3] at hx; cases hx
   | d :: r, hx =>
    by_cases h4 : d.toNat < 32
    ·rw [XfP c d r h3 h4] at hx; cases hx
    by_cases h5 : d.toNat = 47
    ·rw [Xgl c d r h3 h5] at hx
     cases hq : sla r with
     | none => rw [hq] at hx; cases hx
     | some z => have := XfN r z hq; rw [hq] at hx; cases hx; simp only [Nat.add_comm 2, List.take_succ_cons]; exact Xbv (by omega) (Xbv (by omega) this)
    ·rw [Xf3 c d r h3 (by omega) h5] at hx
     cases hq : sla r with
     | none => rw [hq] at hx; cases hx
     | some z => have := XfN r z hq; rw [hq] at hx; cases hx; simp only [Nat.add_comm 2, List.take_succ_cons]; exact Xbv (by omega) (Xbv (by omega) this)
  ·rw [Xgq c r h1 (by omega) h3] at hx
   cases hq : sla r with
   | none => rw [hq] at hx; cases hx
   | some z => have := XfN r z hq; rw [hq] at hx; cases hx; simp only [Nat.add_comm 1, List.take_succ_cons]; exact Xbv (by omega) this
termination_by l.length
decreasing_by
 all_goals subst h; simp; try omega
theorem XhD (p : UInt8 → Bool) (hp : ∀ b, p b = true → b.toNat ≠ 10) : ∀ l : List UInt8, Xmy (l.take (spn p l))
 | [] => XcN
 | c :: r => by
  cases h : p c with
  | false => rw [Xk7 _ _ _ h]; exact XcN
  | true => rw [XeD _ _ _ h, List.take_succ_cons]; exact Xbv (hp c h) (XhD p hp r)
theorem XqC {l : List UInt8} {x : Int × List UInt8 × Nat} (h : one l = .ok x) : Xmy (l.take x.2.2) := by
 cases l with
 | nil => simp [one] at h
 | cons c r =>
  simp only [one] at h
  split at h
  ·cases h
   exact XhD Xcq (fun b hb => by simp only [Xcq, Xbk, Xb7, Bool.or_eq_true, decide_eq_true_eq] at hb; omega) _
  ·split at h
   ·split at h
    ·cases h
    ·cases h
     exact XhD Xbk (fun b hb => by simp only [Xbk, decide_eq_true_eq] at hb; omega) _
   ·split at h
    ·cases hq : quo r with
     | none => rw [hq] at h; cases h
     | some y => rw [hq] at h; cases h; exact Xbv (by omega) (Xlw r y hq)
    ·split at h
     ·cases hq : sla r with
      | none => rw [hq] at h; cases h
      | some y => rw [hq] at h; cases h; exact Xbv (by omega) (XfN r y hq)
     ·split at h
      ·cases h; exact Xbv (by omega) XcN
      ·cases h
theorem XsB {l : List UInt8} {k : Nat} {a : Int} {t : List UInt8} {m : Nat} (h : one (l.drop k) = .ok (a, t, m)) : plc (1, 1) (l.take (k + m)) = ((plc (1, 1) (l.take k)).1, (plc (1, 1) (l.take k)).2 + m) := by
 rw [← XfC, Xli _ _ (XqC h), List.length_take]
 have := XfD h
 simp only at this
 rw [Nat.min_eq_left this.2.1]
def Flt.cells (f : Flt) : List AV := [.x (.int .i64 (f.line : Nat)), .x (.int .i64 (f.col : Nat)), .x (.iface 103 (.int .i64 f.code))]
def XtY (x : Except Flt (List Tok)) (q : AV) (H' : List Hp) : Prop := match x with
 | .ok ts => q = .tup [.sq ts.length (ta ts), .x .nilIface] ∧ H' = []
 | .error f => ∃ b, q = .tup [.x (.slice none 0 0), .x (.iface 106 (.pointer (some ⟨b, 0, none⟩)))] ∧ H' = [.box b f.cells]
set_option maxRecDepth 100000 in
set_option maxHeartbeats 8000000 in
theorem Xte (t : List UInt8) (ht : t.length ≤ 50000) : Xa8 Tryz.prog 50 [] [.x (.string (bs t))] (XtY (Xce (1, 1) 0 t)) := by
 refine XaG Tryz.func50 rfl ?_
 simp only [Tryz.ntmps50, Xu2, Xu5, Xu6, Xu7, Xva, Xu9, Nat.reduceAdd, Nat.reduceSub]
 (repeat' (first | with_reducible (first | refine Xah ?_ | refine Xac ?_ | refine Xan ?_ | refine Xae ?_ | refine Xaa ?_) | ((apply Xad rfl); (case h => ((first | (apply Xab 0 rfl; (first | exact Xar _ rfl | exact Xao _ rfl)) | (apply Xab 10 rfl; (exact XaU _ _ _ _ _ rfl HPl.out (by first | rfl | fail) rfl))))); (case hT => ((try simp only [wtn, ↓reduceIte]); rfl))) | (refine Xaj rfl ?_; (((refine Xaq 15 rfl ?_; ((refine Xbt _ _ rfl (by first | rfl | fail) (fun b => ?_))))); apply Xak; (case hT => ((try simp only [wtn]); rfl)); (case hH => ((try simp only [wtn]); rfl)))) | fail))
 refine XbA 111 4 ?_
 refine XaT (S := Nat × List Tok × Option Addr × Nat) (fun s => frm 85 [(0, .x (.string (bs t))), (4, .x (.pointer (some ⟨b, 0, none⟩))), (5, .x (.slice s.2.2.1 s.2.1.length s.2.2.2))])
  (fun s => [.box b [.x (.string (bs t)), .x (.int .i64 s.1), .x (.int .i64 ((plc (1, 1) (t.take s.1)).1 : Nat)), .x (.int .i64 ((plc (1, 1) (t.take s.1)).2 : Nat))], .row s.2.2.1 s.2.1.length s.2.2.2 111 4 (ta s.2.1)]) (fun s => Xjd t s.1 s.2.1) (fun s => t.length - s.1) (0, [], none, 0) ?a (Xjd.start t) fun s hs => ?_
 case a => exact (XaK.mk' [] [.box b _, .row _ _ _ _ _ _] (List.Perm.swap ..) (XaE.refl _ _) (by (repeat' (first | exact VwL.nil | (refine VwL.cons ?_ ?_) | exact Vw.refl _ | exact Vw.top _ | fail))))
 obtain ⟨k, ts, ad, cap⟩ := s
 simp only at hs
 have hk := hs.le
 have hnk := Xrf (l := t) hk
 have hcn := hs.cnt
 have hk2 : k ≤ nxk t k := by unfold nxk; omega
 have hpl := XkS (t.take (nxk t k)) (1, 1)
 rw [List.length_take, Nat.min_eq_left hnk] at hpl
 have hs' := Lib.hid hs
 clear hs
 simp only [frm, Xu6, Xu7, Xu0, Xu1, Xvd, Xve]
 by_cases he : t.length ≤ nxk t k
 ·have hfin := Lib.hid (hs'.out.fin he)
  have he2 : nxk t k = t.length := by omega
  (repeat' (first | with_reducible (first | refine Xah ?_ | refine Xac ?_ | refine Xan ?_ | refine Xae ?_ | refine Xaa ?_) | (refine Xai _ rfl (fun h => ?_) (fun h => ?_) <;> ((try (simp only [whn] at h)); first | (exfalso; omega; done) | skip)) | ((apply Xad rfl); (case h => ((first | (apply Xab 0 rfl; (exact Xar _ rfl)) | (apply Xab 4 rfl; (exact Xbf _ rfl (by first | exact .inl ⟨_, rfl⟩ | fail))) | (apply Xab 5 rfl; (exact Xal _ _ _ _ _ _ rfl rfl Xa6.out)) | (apply Xab 6 rfl; (exact XaA _ _ _ _ _ _ _ _ rfl rfl XaZ.out XaO.out (by first | exact XuY rfl | fail) (by first | exact XuY rfl | fail))) | (apply XaF; (case hs => (intro _ _ h; cases h)); (case hx => rfl); (case hrun => (intro w; simp [wtb, AV.val, go_sem]; skip; rfl)))))); (case hT => ((try simp (disch := omega) only [wtn, sc, scc, Xu3, Xu0, Xu1, Xu4, Xu8, Nat.reduceAdd, Nat.reduceMul, Nat.reduceSub, ↓reduceIte, Nat.reduceEqDiff]); rfl))) | (refine Xaj rfl ?_; (((refine Xaq 11 rfl ?_; ((refine Xam 83 Tryz.f83 [_] _ _ _ rfl rfl Tryz.func83 (by decide) rfl (XuZ _) (VwL.refl _ _) (Xij b t k (by assumption) (by omega)) ?_; rintro _ _ rfl)))); apply Xak; (case hT => ((try simp (disch := omega) only [wtn, sc, scc, Xu3, Xu0, Xu1, Xu4, Xu8, Nat.reduceAdd, Nat.reduceMul, Nat.reduceSub, ↓reduceIte, Nat.reduceEqDiff]); rfl)); (case hH => ((try simp (disch := omega) only [wtn, sc, scc, Xu3, Xu0, Xu1, Xu4, Xu8, Nat.reduceAdd, Nat.reduceMul, Nat.reduceSub, ↓reduceIte, Nat.reduceEqDiff]); rfl)))) | fail))
  refine Xb1 Xbd [] [_] _ (XuZ _) ?_
  (first | (apply XaJ 0 rfl rfl (by kernel_rfl) (by intro c T H hp; simp [XaP, Xas, XaV, Xbx] at hp); (case h => (exact Xbh _ rfl))) | fail); (apply Xap; (case hT => ((try simp only [wtn]); rfl)); (case hH => rfl)); (first | (apply XaJ 1 rfl rfl (by kernel_rfl) (by intro c T H hp; simp [XaP, Xas, XaV, Xbx] at hp); (case h => (exact Xbh _ rfl))) | fail); (apply Xap; (case hT => ((try simp only [wtn]); rfl)); (case hH => rfl)); (first | (apply XaJ 2 rfl rfl (by kernel_rfl) (by intro c T H hp; simp [XaP, Xas, XaV, Xbx] at hp); (case h => (exact Xck _ _ _ rfl rfl))) | fail); (apply Xap; (case hT => ((try simp only [wtn]); rfl)); (case hH => rfl)); (first | (apply XaJ 3 rfl rfl (by kernel_rfl) (by intro c T H hp; simp [XaP, Xas, XaV, Xbx] at hp); (case h => (exact XaY _ _ _ _ _ _ rfl rfl Xa6.out))) | fail); (apply Xap; (case hT => ((try simp only [wtn]); rfl)); (case hH => rfl)); (first | refine Xbg 4 rfl rfl (by kernel_rfl) (by intro c T H hp; simp [XaP, Xas, XaV, Xbx] at hp) _ _ _ _ _ _ _ _ rfl rfl XaZ.out XaO.out (by first | exact XuY rfl | fail) (by first | exact XuY rfl | fail) ?_ | fail); (apply Xap; (case hT => ((try simp only [wtn]); rfl)); (case hH => rfl)); (first | (apply XaJ 5 rfl rfl (by kernel_rfl) (by intro c T H hp; simp [XaP, Xas, XaV, Xbx] at hp); (case h => (exact Xbh _ rfl))) | fail); (apply Xap; (case hT => ((try simp only [wtn]); rfl)); (case hH => rfl)); (first | (apply XaJ 6 rfl rfl (by kernel_rfl) (by intro c T H hp; simp [XaP, Xas, XaV, Xbx] at hp); (case h => (exact Xck _ _ _ rfl rfl))) | fail); (apply Xap; (case hT => ((try simp only [wtn]); rfl)); (case hH => rfl)); (first | (apply XaJ 7 rfl rfl (by kernel_rfl) (by intro c T H hp; simp [XaP, Xas, XaV, Xbx] at hp); (case h => (exact XaY _ _ _ _ _ _ rfl rfl Xa6.out))) | fail); (apply Xap; (case hT => ((try simp only [wtn]); rfl)); (case hH => rfl)); (first | refine Xbg 8 rfl rfl (by kernel_rfl) (by intro c T H hp; simp [XaP, Xas, XaV, Xbx] at hp) _ _ _ _ _ _ _ _ rfl rfl XaZ.out XaO.out (by first | exact XuY rfl | fail) (by first | exact XuY rfl | fail) ?_ | fail); (apply Xap; (case hT => ((try simp only [wtn]); rfl)); (case hH => rfl))
  (repeat ((first | refine Xby 9 (by decide +kernel) rfl rfl ?_ | refine Xby 10 (by decide +kernel) rfl rfl ?_ | refine Xby 11 (by decide +kernel) rfl rfl ?_ | refine Xby 12 (by decide +kernel) rfl rfl ?_ | refine Xby 13 (by decide +kernel) rfl rfl ?_ | fail); (first | (apply Xa9; (case h => (first | (apply Xab 0 rfl; (exact Xao _ rfl)) | (apply Xab 10 rfl; (exact XaU _ _ _ _ _ rfl HPl.out (by first | rfl | fail) rfl)))); (apply Xap; (case hT => ((try simp only [wtn, ↓reduceIte]); rfl)); (case hH => rfl))) | ((first | (refine Xaq 13 rfl ?_; ((refine XaH _ _ _ _ _ _ _ _ _ _ _ _ _ _ rfl rfl XbD.out (Src.row _ rfl XbD.out) XaQ.out (by first | rfl | fail) (XcD _ _ (by omega) (by decide)) (fun ad cap => ?_)))) | (refine Xaq 17 rfl ?_; ((refine XaB _ _ _ _ _ _ _ _ rfl XaQ.out (by first | rfl | fail) rfl (by decide) rfl (fun b => ?_))))); apply Xap; (case hT => ((try simp only [wtn]); rfl)); (case hH => ((try simp only [wtn, Nat.reduceAdd, Nat.reduceMul]); rfl))) | fail)))
  refine XbQ (by decide +kernel) ?_
  refine Xay rfl (by simp only [Xva, Xu9]; rfl) ?_
  refine Xa3 (by decide +kernel) ?_
  (repeat' (first | with_reducible (first | refine Xat ?_ | refine Xaa ?_ | refine Xaw ?_ | refine Xav ?_) | fail))
  rw [hfin.out]
  refine Xaf _ _ (Xc2 rfl (RV.tmp _) (RV.tmp _) (XaK.mk' [_, _, _] [] (XuZ _) XaE.nil (VwL.cons (Vw.row (List.Mem.tail _ (List.Mem.tail _ (List.Mem.head _))) (VwL.refl _ _)) (VwL.refl _ _)))) ?_
  refine ⟨?_, rfl⟩
  simp only [Xlb, Xvb, Xu2, Xu5]
  rfl
 ·obtain ⟨c, r, hc1, hc2⟩ := hs'.out.cons (by omega)
  have ho := Xmg c r (by have := congrArg List.length hc1; simp at this; omega)
  rw [← hc1] at ho
  have hkl : nxk t k < t.length := by omega
  cases h1 : one (t.drop (nxk t k)) with
  | error e =>
   have hb := Lib.hid (hs'.out.bad hc2 (by rw [← hc1]; exact h1))
   rw [h1] at ho
   simp only [XmI] at ho
   clear hc1 hc2 h1
   (repeat' (first | with_reducible (first | refine Xah ?_ | refine Xac ?_ | refine Xan ?_ | refine Xax ?_ | refine Xae ?_ | refine Xaa ?_) | (refine Xai _ rfl (fun h => ?_) (fun h => ?_) <;> first | (exact absurd h (by decide)) | ((try (simp only [whn] at h)); first | (exfalso; omega; done) | skip)) | ((apply Xdn rfl rfl rfl); (case hT => ((try simp (disch := omega) only [wtn, sc, scc, List.take_length, Xu3, Xu0, Xu1, Xu4, Xu8, Nat.reduceAdd, Nat.reduceMul, Nat.reduceSub, ↓reduceIte, Nat.reduceEqDiff]); rfl))) | ((apply Xad rfl); (case h => ((first | (apply Xab 0 rfl; (first | exact Xar _ rfl | exact Xao _ rfl)) | (apply Xab 1 rfl; (exact XbE _ _ _ rfl rfl)) | (apply Xab 2 rfl; (exact XaL _ _ _ _ rfl rfl rfl)) | (apply Xab 4 rfl; (exact Xbf _ rfl (by first | exact .inl ⟨_, rfl⟩ | fail))) | (apply Xab 5 rfl; (exact Xal _ _ _ _ _ _ rfl rfl Xa6.out)) | (apply Xab 6 rfl; (exact XaA _ _ _ _ _ _ _ _ rfl rfl XaZ.out XaO.out (by first | exact XuY rfl | fail) (by first | exact XuY rfl | fail))) | (apply Xab 9 rfl; (exact Xa0 _ _ _ _ _ _ _ rfl rfl (by kernel_rfl) (by first | exact .inr ⟨_, _, rfl, rfl⟩ | fail) (by first | exact .inl ⟨rfl, rfl⟩ | fail) (by omega) (by omega))) | (apply Xab 11 rfl; (exact Xaz 84 Tryz.f84 _ _ rfl rfl Tryz.func84 (by decide) rfl (VwL.refl _ _) (ho))) | (apply XaF; (case hs => (intro _ _ h; cases h)); (case hx => rfl); (case hrun => (intro w; simp [wtb, AV.val, go_sem]; skip; rfl)))))); (case hT => ((try simp (disch := omega) only [wtn, sc, scc, List.take_length, Xu3, Xu0, Xu1, Xu4, Xu8, Nat.reduceAdd, Nat.reduceMul, Nat.reduceSub, ↓reduceIte, Nat.reduceEqDiff]); rfl))) | (refine Xaj rfl ?_; (((refine Xaq 11 rfl ?_; ((refine Xam 83 Tryz.f83 [_] _ _ _ rfl rfl Tryz.func83 (by decide) rfl (XuZ _) (VwL.refl _ _) (Xij b t k (by assumption) (by omega)) ?_; rintro _ _ rfl)))); apply Xak; (case hT => ((try simp (disch := omega) only [wtn, sc, scc, List.take_length, Xu3, Xu0, Xu1, Xu4, Xu8, Nat.reduceAdd, Nat.reduceMul, Nat.reduceSub, ↓reduceIte, Nat.reduceEqDiff]); rfl)); (case hH => ((try simp (disch := omega) only [wtn, sc, scc, List.take_length, Xu3, Xu0, Xu1, Xu4, Xu8, Nat.reduceAdd, Nat.reduceMul, Nat.reduceSub, ↓reduceIte, Nat.reduceEqDiff]); rfl)))) | fail))
   refine Xb1 Xbd [] [_] _ (XuZ _) ?_
   (first | (apply XaJ 0 rfl rfl (by kernel_rfl) (by intro c T H hp; simp [XaP, Xas, XaV, Xbx] at hp); (case h => (exact Xbh _ rfl))) | fail); (apply Xap; (case hT => ((try simp only [wtn]); rfl)); (case hH => rfl)); (first | (apply XaJ 1 rfl rfl (by kernel_rfl) (by intro c T H hp; simp [XaP, Xas, XaV, Xbx] at hp); (case h => (exact Xck _ _ _ rfl rfl))) | fail); (apply Xap; (case hT => ((try simp only [wtn]); rfl)); (case hH => rfl)); (first | (apply XaJ 2 rfl rfl (by kernel_rfl) (by intro c T H hp; simp [XaP, Xas, XaV, Xbx] at hp); (case h => (exact XaY _ _ _ _ _ _ rfl rfl Xa6.out))) | fail); (apply Xap; (case hT => ((try simp only [wtn]); rfl)); (case hH => rfl)); (first | refine Xbg 3 rfl rfl (by kernel_rfl) (by intro c T H hp; simp [XaP, Xas, XaV, Xbx] at hp) _ _ _ _ _ _ _ _ rfl rfl XaZ.out XaO.out (by first | exact XuY rfl | fail) (by first | exact XuY rfl | fail) ?_ | fail); (apply Xap; (case hT => ((try simp only [wtn]); rfl)); (case hH => rfl)); (first | (apply XaJ 4 rfl rfl (by kernel_rfl) (by intro c T H hp; simp [XaP, Xas, XaV, Xbx] at hp); (case h => (exact Xbh _ rfl))) | fail); (apply Xap; (case hT => ((try simp only [wtn]); rfl)); (case hH => rfl)); (first | (apply XaJ 5 rfl rfl (by kernel_rfl) (by intro c T H hp; simp [XaP, Xas, XaV, Xbx] at hp); (case h => (exact Xck _ _ _ rfl rfl))) | fail); (apply Xap; (case hT => ((try simp only [wtn]); rfl)); (case hH => rfl)); (first | (apply XaJ 6 rfl rfl (by kernel_rfl) (by intro c T H hp; simp [XaP, Xas, XaV, Xbx] at hp); (case h => (exact XaY _ _ _ _ _ _ rfl rfl Xa6.out))) | fail); (apply Xap; (case hT => ((try simp only [wtn]); rfl)); (case hH => rfl)); (first | refine Xbg 7 rfl rfl (by kernel_rfl) (by intro c T H hp; simp [XaP, Xas, XaV, Xbx] at hp) _ _ _ _ _ _ _ _ rfl rfl XaZ.out XaO.out (by first | exact XuY rfl | fail) (by first | exact XuY rfl | fail) ?_ | fail); (apply Xap; (case hT => ((try simp only [wtn]); rfl)); (case hH => rfl)); (first | (apply XaJ 8 rfl rfl (by kernel_rfl) (by intro c T H hp; simp [XaP, Xas, XaV, Xbx] at hp); (case h => (exact Xbh _ rfl))) | fail); (apply Xap; (case hT => ((try simp only [wtn]); rfl)); (case hH => rfl)); (first | (apply XaJ 12 rfl rfl (by kernel_rfl) (by intro c T H hp; simp [XaP, Xas, XaV, Xbx] at hp); (case h => (exact Xgc _ rfl))) | fail); (apply Xap; (case hT => ((try simp only [wtn]); rfl)); (case hH => rfl))
   (repeat ((first | refine Xby 9 (by decide +kernel) rfl rfl ?_ | refine Xby 10 (by decide +kernel) rfl rfl ?_ | refine Xby 11 (by decide +kernel) rfl rfl ?_ | refine Xby 13 (by decide +kernel) rfl rfl ?_ | fail); (first | (apply Xa9; (case h => (first | (apply Xab 0 rfl; (exact Xao _ rfl)) | (apply Xab 10 rfl; (exact XaU _ _ _ _ _ rfl HPl.out (by first | rfl | fail) rfl)) | (apply XaF; (case hs => (intro _ _ h; cases h)); (case hx => rfl); (case hrun => (intro w; simp [wtb, AV.val, go_sem]; skip; rfl))))); (apply Xap; (case hT => ((try simp only [wtn, ↓reduceIte]); rfl)); (case hH => rfl))) | (((refine Xaq 15 rfl ?_; ((refine Xbt _ _ rfl (by first | rfl | fail) (fun b => ?_))))); apply Xap; (case hT => ((try simp only [wtn]); rfl)); (case hH => ((try simp only [wtn]); rfl))) | fail)))
   refine XbQ (by decide +kernel) ?_
   refine Xay rfl (by simp only [Xva, Xu9]; rfl) ?_
   refine Xa3 (by decide +kernel) ?_
   (repeat' (first | with_reducible (first | refine Xat ?_ | refine Xaa ?_ | refine Xaw ?_ | refine Xav ?_) | fail))
   rw [hb.out]
   refine Xaf _ _ (Xc2 rfl (RV.tmp _) (RV.tmp _) (XaK.mk' [_, _] [.box b _] (Xvf _ (List.Perm.swap _ _ _)) (XaE.refl _ _) (VwL.refl _ _))) ⟨_, rfl, rfl⟩
  | ok x =>
   obtain ⟨a, tx, m⟩ := x
   have hpt := XsB h1
   rw [h1] at ho
   simp only [XmI] at ho
   obtain ⟨g1, g2, g3, g4⟩ := XfD h1
   simp only [List.length_drop] at g1 g2 g3
   by_cases hf : 2000 ≤ ts.length
   ·have hb := Lib.hid (hs'.out.full hc2 (by rw [← hc1]; exact h1) hf)
    clear hc1 hc2 h1
    (repeat' (first | with_reducible (first | refine Xah ?_ | refine Xac ?_ | refine Xan ?_ | refine Xax ?_ | refine Xae ?_ | refine Xaa ?_) | (refine Xai _ rfl (fun h => ?_) (fun h => ?_) <;> first | (exact absurd h (by decide)) | ((try (simp only [whn] at h)); first | (exfalso; omega; done) | skip)) | ((first | apply Xad rfl | apply Xa7 _ _ rfl rfl rfl); (case h => ((try (intro (hp : (_ : Bool) = true); ((try simp only [] at hp); skip; skip))); (first | (apply Xab 0 rfl; (first | exact Xar _ rfl | exact Xao _ rfl)) | (apply Xab 1 rfl; (exact XbG _ _ _ rfl rfl)) | (apply Xab 2 rfl; (exact XaL _ _ _ _ rfl rfl rfl)) | (apply Xab 4 rfl; (exact Xbf _ rfl (by first | exact .inl ⟨_, rfl⟩ | fail))) | (apply Xab 5 rfl; (exact Xal _ _ _ _ _ _ rfl rfl Xa6.out)) | (apply Xab 6 rfl; (exact XaA _ _ _ _ _ _ _ _ rfl rfl XaZ.out XaO.out (by first | exact XuY rfl | fail) (by first | exact XuY rfl | fail))) | (apply Xab 9 rfl; (exact Xa0 _ _ _ _ _ _ _ rfl rfl (by kernel_rfl) (by first | exact .inr ⟨_, _, rfl, rfl⟩ | fail) (by first | exact .inl ⟨rfl, rfl⟩ | fail) (by omega) (by omega))) | (apply Xab 11 rfl; (exact Xaz 84 Tryz.f84 _ _ rfl rfl Tryz.func84 (by decide) rfl (VwL.refl _ _) (ho))) | (apply XaF; (case hs => (intro _ _ h; cases h)); (case hx => rfl); (case hrun => (intro w; simp [wtb, AV.val, go_sem]; skip; rfl)))))); (case hT => ((try simp (disch := omega) only [wtn, sc, scc, List.take_length, Xu3, Xu0, Xu1, Xu4, Xu8, Nat.reduceAdd, Nat.reduceMul, Nat.reduceSub, ↓reduceIte, Nat.reduceEqDiff]); rfl))) | (refine Xaj rfl ?_; (((refine Xaq 11 rfl ?_; ((refine Xam 83 Tryz.f83 [_] _ _ _ rfl rfl Tryz.func83 (by decide) rfl (XuZ _) (VwL.refl _ _) (Xij b t k (by assumption) (by omega)) ?_; rintro _ _ rfl)))); apply Xak; (case hT => ((try simp (disch := omega) only [wtn, sc, scc, List.take_length, Xu3, Xu0, Xu1, Xu4, Xu8, Nat.reduceAdd, Nat.reduceMul, Nat.reduceSub, ↓reduceIte, Nat.reduceEqDiff]); rfl)); (case hH => ((try simp (disch := omega) only [wtn, sc, scc, List.take_length, Xu3, Xu0, Xu1, Xu4, Xu8, Nat.reduceAdd, Nat.reduceMul, Nat.reduceSub, ↓reduceIte, Nat.reduceEqDiff]); rfl)))) | fail))
    refine Xb1 Xbd [] [_] _ (XuZ _) ?_
    (first | (apply XaJ 0 rfl rfl (by kernel_rfl) (by intro c T H hp; simp [XaP, Xas, XaV, Xbx] at hp); (case h => (exact Xbh _ rfl))) | fail); (apply Xap; (case hT => ((try simp only [wtn]); rfl)); (case hH => rfl)); (first | (apply XaJ 1 rfl rfl (by kernel_rfl) (by intro c T H hp; simp [XaP, Xas, XaV, Xbx] at hp); (case h => (exact Xck _ _ _ rfl rfl))) | fail); (apply Xap; (case hT => ((try simp only [wtn]); rfl)); (case hH => rfl)); (first | (apply XaJ 2 rfl rfl (by kernel_rfl) (by intro c T H hp; simp [XaP, Xas, XaV, Xbx] at hp); (case h => (exact XaY _ _ _ _ _ _ rfl rfl Xa6.out))) | fail); (apply Xap; (case hT => ((try simp only [wtn]); rfl)); (case hH => rfl)); (first | refine Xbg 3 rfl rfl (by kernel_rfl) (by intro c T H hp; simp [XaP, Xas, XaV, Xbx] at hp) _ _ _ _ _ _ _ _ rfl rfl XaZ.out XaO.out (by first | exact XuY rfl | fail) (by first | exact XuY rfl | fail) ?_ | fail); (apply Xap; (case hT => ((try simp only [wtn]); rfl)); (case hH => rfl)); (first | (apply XaJ 4 rfl rfl (by kernel_rfl) (by intro c T H hp; simp [XaP, Xas, XaV, Xbx] at hp); (case h => (exact Xbh _ rfl))) | fail); (apply Xap; (case hT => ((try simp only [wtn]); rfl)); (case hH => rfl)); (first | (apply XaJ 5 rfl rfl (by kernel_rfl) (by intro c T H hp; simp [XaP, Xas, XaV, Xbx] at hp); (case h => (exact Xck _ _ _ rfl rfl))) | fail); (apply Xap; (case hT => ((try simp only [wtn]); rfl)); (case hH => rfl)); (first | (apply XaJ 6 rfl rfl (by kernel_rfl) (by intro c T H hp; simp [XaP, Xas, XaV, Xbx] at hp); (case h => (exact XaY _ _ _ _ _ _ rfl rfl Xa6.out))) | fail); (apply Xap; (case hT => ((try simp only [wtn]); rfl)); (case hH => rfl)); (first | refine Xbg 7 rfl rfl (by kernel_rfl) (by intro c T H hp; simp [XaP, Xas, XaV, Xbx] at hp) _ _ _ _ _ _ _ _ rfl rfl XaZ.out XaO.out (by first | exact XuY rfl | fail) (by first | exact XuY rfl | fail) ?_ | fail); (apply Xap; (case hT => ((try simp only [wtn]); rfl)); (case hH => rfl)); (first | (apply XaJ 8 rfl rfl (by kernel_rfl) (by intro c T H hp; simp [XaP, Xas, XaV, Xbx] at hp); (case h => (exact Xbh _ rfl))) | fail); (apply Xap; (case hT => ((try simp only [wtn]); rfl)); (case hH => rfl)); (first | (apply XaJ 12 rfl rfl (by kernel_rfl) (by intro c T H hp; simp [XaP, Xas, XaV, Xbx] at hp); (case h => (exact Xgc _ rfl))) | fail); (apply Xap; (case hT => ((try simp only [wtn]); rfl)); (case hH => rfl))
    (repeat ((first | refine Xby 9 (by decide +kernel) rfl rfl ?_ | refine Xby 10 (by decide +kernel) rfl rfl ?_ | refine Xby 11 (by decide +kernel) rfl rfl ?_ | refine Xby 13 (by decide +kernel) rfl rfl ?_ | fail); (first | (apply Xa9; (case h => (first | (apply Xab 0 rfl; (exact Xao _ rfl)) | (apply Xab 10 rfl; (exact XaU _ _ _ _ _ rfl HPl.out (by first | rfl | fail) rfl)) | (apply XaF; (case hs => (intro _ _ h; cases h)); (case hx => rfl); (case hrun => (intro w; simp [wtb, AV.val, go_sem]; skip; rfl))))); (apply Xap; (case hT => ((try simp only [wtn, ↓reduceIte]); rfl)); (case hH => rfl))) | (((refine Xaq 15 rfl ?_; ((refine Xbt _ _ rfl (by first | rfl | fail) (fun b => ?_))))); apply Xap; (case hT => ((try simp only [wtn]); rfl)); (case hH => ((try simp only [wtn]); rfl))) | fail)))
    refine XbQ (by decide +kernel) ?_
    refine Xay rfl (by simp only [Xva, Xu9]; rfl) ?_
    refine Xa3 (by decide +kernel) ?_
    (repeat' (first | with_reducible (first | refine Xat ?_ | refine Xaa ?_ | refine Xaw ?_ | refine Xav ?_) | fail))
    rw [hb.out]
    refine Xaf _ _ (Xc2 rfl (RV.tmp _) (RV.tmp _) (XaK.mk' [_, _] [.box b _] (Xvf _ (List.Perm.swap _ _ _)) (XaE.refl _ _) (VwL.refl _ _))) ⟨_, rfl, rfl⟩
   ·have hb := Lib.hid (hs'.out.next hc2 (by rw [← hc1]; exact h1) (by omega))
    clear hc1 hc2 h1
    (repeat' (first | with_reducible (first | refine Xah ?_ | refine Xac ?_ | refine Xan ?_ | refine Xax ?_ | refine Xae ?_ | refine Xaa ?_) | (refine Xai _ rfl (fun h => ?_) (fun h => ?_) <;> first | (exact absurd h (by decide)) | ((try (simp only [whn] at h)); first | (exfalso; omega; done) | skip)) | ((first | apply Xad rfl | apply Xa7 _ _ rfl rfl rfl); (case h => ((try (intro (hp : (_ : Bool) = true); ((try simp only [] at hp); skip; skip))); (first | (apply Xab 0 rfl; (first | exact Xar _ rfl | exact Xao _ rfl)) | (apply Xab 1 rfl; (exact XbG _ _ _ rfl rfl)) | (apply Xab 2 rfl; (exact XaL _ _ _ _ rfl rfl rfl)) | (apply Xab 4 rfl; (exact Xbf _ rfl (by first | exact .inl ⟨_, rfl⟩ | fail))) | (apply Xab 5 rfl; (exact Xal _ _ _ _ _ _ rfl rfl Xa6.out)) | (apply Xab 6 rfl; (exact XaA _ _ _ _ _ _ _ _ rfl rfl XaZ.out XaO.out (by first | exact XuY rfl | fail) (by first | exact XuY rfl | fail))) | (apply Xab 9 rfl; (exact Xa0 _ _ _ _ _ _ _ rfl rfl (by kernel_rfl) (by first | exact .inr ⟨_, _, rfl, rfl⟩ | fail) (by first | exact .inl ⟨rfl, rfl⟩ | fail) (by omega) (by omega))) | (apply Xab 11 rfl; (exact Xaz 84 Tryz.f84 _ _ rfl rfl Tryz.func84 (by decide) rfl (VwL.refl _ _) (ho))) | (apply XaF; (case hs => (intro _ _ h; cases h)); (case hx => rfl); (case hrun => (intro w; simp [wtb, AV.val, go_sem]; skip; rfl)))))); (case hT => ((try simp (disch := omega) only [wtn, sc, scc, List.take_length, Xu3, Xu0, Xu1, Xu4, Xu8, Nat.reduceAdd, Nat.reduceMul, Nat.reduceSub, ↓reduceIte, Nat.reduceEqDiff]); rfl))) | (refine Xaj rfl ?_; (((refine Xaq 11 rfl ?_; ((refine Xam 83 Tryz.f83 [_] _ _ _ rfl rfl Tryz.func83 (by decide) rfl (XuZ _) (VwL.refl _ _) (Xij b t k (by assumption) (by omega)) ?_; rintro _ _ rfl)))); apply Xak; (case hT => ((try simp (disch := omega) only [wtn, sc, scc, List.take_length, Xu3, Xu0, Xu1, Xu4, Xu8, Nat.reduceAdd, Nat.reduceMul, Nat.reduceSub, ↓reduceIte, Nat.reduceEqDiff]); rfl)); (case hH => ((try simp (disch := omega) only [wtn, sc, scc, List.take_length, Xu3, Xu0, Xu1, Xu4, Xu8, Nat.reduceAdd, Nat.reduceMul, Nat.reduceSub, ↓reduceIte, Nat.reduceEqDiff]); rfl)))) | fail))
    refine Xb1 Xbd [] [_] _ (XuZ _) ?_
    (first | (apply XaJ 0 rfl rfl (by kernel_rfl) (by intro c T H hp; simp [XaP, Xas, XaV, Xbx] at hp); (case h => (exact Xbh _ rfl))) | fail); (apply Xap; (case hT => ((try simp only [wtn]); rfl)); (case hH => rfl)); (first | (apply XaJ 1 rfl rfl (by kernel_rfl) (by intro c T H hp; simp [XaP, Xas, XaV, Xbx] at hp); (case h => (exact Xbh _ rfl))) | fail); (apply Xap; (case hT => ((try simp only [wtn]); rfl)); (case hH => rfl)); (first | (apply XaJ 2 rfl rfl (by kernel_rfl) (by intro c T H hp; simp [XaP, Xas, XaV, Xbx] at hp); (case h => (exact Xbh _ rfl))) | fail); (apply Xap; (case hT => ((try simp only [wtn]); rfl)); (case hH => rfl)); (first | (apply XaJ 3 rfl rfl (by kernel_rfl) (by intro c T H hp; simp [XaP, Xas, XaV, Xbx] at hp); (case h => (exact Xbh _ rfl))) | fail); (apply Xap; (case hT => ((try simp only [wtn]); rfl)); (case hH => rfl)); (first | (apply XaJ 4 rfl rfl (by kernel_rfl) (by intro c T H hp; simp [XaP, Xas, XaV, Xbx] at hp); (case h => (exact Xck _ _ _ rfl rfl))) | fail); (apply Xap; (case hT => ((try simp only [wtn]); rfl)); (case hH => rfl)); (first | (apply XaJ 5 rfl rfl (by kernel_rfl) (by intro c T H hp; simp [XaP, Xas, XaV, Xbx] at hp); (case h => (exact XaY _ _ _ _ _ _ rfl rfl Xa6.out))) | fail); (apply Xap; (case hT => ((try simp only [wtn]); rfl)); (case hH => rfl)); (first | refine Xbg 6 rfl rfl (by kernel_rfl) (by intro c T H hp; simp [XaP, Xas, XaV, Xbx] at hp) _ _ _ _ _ _ _ _ rfl rfl XaZ.out XaO.out (by first | exact XuY rfl | fail) (by first | exact XuY rfl | fail) ?_ | fail); (apply Xap; (case hT => ((try simp only [wtn]); rfl)); (case hH => rfl)); (first | (apply XaJ 7 rfl rfl (by kernel_rfl) (by intro c T H hp; simp [XaP, Xas, XaV, Xbx] at hp); (case h => (exact Xbh _ rfl))) | fail); (apply Xap; (case hT => ((try simp only [wtn]); rfl)); (case hH => rfl)); (first | (apply XaJ 8 rfl rfl (by kernel_rfl) (by intro c T H hp; simp [XaP, Xas, XaV, Xbx] at hp); (case h => (exact Xck _ _ _ rfl rfl))) | fail); (apply Xap; (case hT => ((try simp only [wtn]); rfl)); (case hH => rfl)); (first | (apply XaJ 9 rfl rfl (by kernel_rfl) (by intro c T H hp; simp [XaP, Xas, XaV, Xbx] at hp); (case h => (exact XaY _ _ _ _ _ _ rfl rfl Xa6.out))) | fail); (apply Xap; (case hT => ((try simp only [wtn]); rfl)); (case hH => rfl)); (first | refine Xbg 10 rfl rfl (by kernel_rfl) (by intro c T H hp; simp [XaP, Xas, XaV, Xbx] at hp) _ _ _ _ _ _ _ _ rfl rfl XaZ.out XaO.out (by first | exact XuY rfl | fail) (by first | exact XuY rfl | fail) ?_ | fail); (apply Xap; (case hT => ((try simp only [wtn]); rfl)); (case hH => rfl))
    (repeat ((first | refine Xby 11 (by decide +kernel) rfl rfl ?_ | refine Xby 12 (by decide +kernel) rfl rfl ?_ | refine Xby 13 (by decide +kernel) rfl rfl ?_ | refine Xby 14 (by decide +kernel) rfl rfl ?_ | fail); (first | (apply Xa9; (case h => (first | (apply Xab 0 rfl; (exact Xao _ rfl)) | (apply Xab 10 rfl; (exact XaU _ _ _ _ _ rfl HPl.out (by first | rfl | fail) rfl)))); (apply Xap; (case hT => ((try simp only [wtn, ↓reduceIte]); rfl)); (case hH => rfl))) | ((first | (refine Xaq 13 rfl ?_; ((refine XaH _ _ _ _ _ _ _ _ _ _ _ _ _ _ rfl rfl XbD.out (Src.row _ rfl XbD.out) XaQ.out (by first | rfl | fail) (XcD _ _ (by omega) (by decide)) (fun ad cap => ?_)))) | (refine Xaq 17 rfl ?_; ((refine XaB _ _ _ _ _ _ _ _ rfl XaQ.out (by first | rfl | fail) rfl (by decide) rfl (fun b => ?_))))); apply Xap; (case hT => ((try simp only [wtn]); rfl)); (case hH => ((try simp only [wtn, Nat.reduceAdd, Nat.reduceMul]); rfl))) | fail)))
    refine XbQ (by decide +kernel) ?_
    refine Xay rfl (by simp only [Xva, Xu9]; rfl) ?_
    refine Xa3 (by decide +kernel) ?_
    (repeat' (first | with_reducible (first | refine Xac ?_ | refine Xae ?_ | refine Xaa ?_ | refine Xag ?_) | ((apply Xad rfl); (case h => (((apply Xab 0 rfl; (exact Xar _ rfl))))); (case hT => ((try simp (disch := omega) only [wtn, scc, Xu3, Xu0, Xu1, Xu4, Xu8, Nat.reduceAdd, Nat.reduceMul, Nat.reduceSub, ↓reduceIte, Nat.reduceEqDiff]); rfl))) | (refine Xaj rfl ?_; (((refine Xaq 11 rfl ?_; ((refine Xam 85 Tryz.f85 [_] _ _ _ rfl rfl Tryz.func85 (by decide) rfl (XuZ _) (VwL.refl _ _) (Xd9 _ t _ _ _ m (by omega) (by omega) (by omega)) ?_; rintro _ _ rfl)))); apply Xak; (case hT => ((try simp (disch := omega) only [wtn, scc, Xu3, Xu0, Xu1, Xu4, Xu8, Nat.reduceAdd, Nat.reduceMul, Nat.reduceSub, ↓reduceIte, Nat.reduceEqDiff]); rfl)); (case hH => ((try simp (disch := omega) only [wtn, scc, Xu3, Xu0, Xu1, Xu4, Xu8, Nat.reduceAdd, Nat.reduceMul, Nat.reduceSub, ↓reduceIte, Nat.reduceEqDiff]); rfl)))) | fail))
    refine ⟨(nxk t k + m, _, ad, cap), by simp only; omega, hb.out, ?_⟩
    simp only [hpt, Xlb, Xvb, Xu2, Xu5, Int.natCast_add]
    exact (XaK.mk' [_] [_, _] (List.Perm.swap _ _ _) (XaE.refl _ _) (by (repeat' (first | exact VwL.nil | (refine VwL.cons ?_ ?_) | exact Vw.refl _ | exact Vw.top _ | fail))))
end Go.Proofs.YtdpobjakdplljaaGreatDoor
