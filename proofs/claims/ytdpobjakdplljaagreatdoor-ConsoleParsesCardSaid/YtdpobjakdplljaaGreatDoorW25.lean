import Derived.Test.YtdpobjakdplljaaGreatDoorW24
import Derived.Test.YtdpobjakdplljaaGreatDoorW15
import Derived.Test.YtdpobjakdplljaaGreatDoorW10
import Derived.Test.YtdpobjakdplljaaGreatDoorW19
/- The reference's parser, exact: lists of XkD and of rungs. -/
set_option linter.unusedSimpArgs false
set_option linter.unusedVariables false
namespace Go.Proofs.YtdpobjakdplljaaGreatDoor
open Go.RowKit
theorem Xnq (b : Nat) (ts : List Tok) (k : Nat) (e l c : Int) (sv : AV) (hsv : sv.one = true) (e2 : Int) (t : Tok) (he : e = 0) : Xa8 Tryz.prog 202 [.box b (pc ts k e l c sv)] [.x (.pointer (some ⟨b, 0, none⟩)), .x (.int .i64 e2), t.av] (fun r H' => r = .x (.tuple #[]) ∧ H' = [.box b (pc ts k e2 t.line t.col sv)]) := by
 have h := Xf9 b ts ⟨k, e, l, c⟩ sv hsv e2 t
 simp only [PS.fail, if_pos he, PS.cells] at h
 exact h
theorem Xov (b : Nat) (ts : List Tok) (k : Nat) (e l c : Int) (sv : AV) (hsv : sv.one = true) (e2 : Int) (t : Tok) (he : e ≠ 0) : Xa8 Tryz.prog 202 [.box b (pc ts k e l c sv)] [.x (.pointer (some ⟨b, 0, none⟩)), .x (.int .i64 e2), t.av] (fun r H' => r = .x (.tuple #[]) ∧ H' = [.box b (pc ts k e l c sv)]) := by
 have h := Xf9 b ts ⟨k, e, l, c⟩ sv hsv e2 t
 simp only [PS.fail, if_neg he, PS.cells] at h
 exact h
theorem Xuq (ts : List Tok) (k : Nat) (e l c : Int) (sv : AV) (s : List UInt8) (hk : k < ts.length) (hl : ts.length ≤ 1000000) : Xa8 Tryz.prog 201 [] [.at_ (pc ts k e l c sv), .x (.int .i64 5), .x (.string (bs s))] (fun r H' => r = .x (.bool (e == 0 && gIs ts k s)) ∧ H' = []) := by
 have h := XuB ts k e l c sv 5 s hk hl
 rw [Xob hk] at h
 exact h
theorem Got.err {α : Type} {ts : List Tok} {s : PS} (hk : s.k < ts.length) (he : s.e = 0) (e2 : Int) (h2 : e2 ≠ 0) (t : Tok) (v : α) : Got ts s (.error (flt e2 t)) ⟨s.k, e2, t.line, t.col⟩ v :=
 ⟨hk, Nat.le_refl _, fun h => absurd he h, fun _ => ⟨h2, rfl, rfl, rfl⟩⟩
theorem Got.step {α : Type} {ts : List Tok} {k k2 : Nat} {e l c : Int} {s' : PS} {x : Except Flt (α × Nat)} {v : α} (h : Got ts ⟨k2, e, l, c⟩ x s' v) (he : e = 0) (hq : k ≤ k2) : Got ts ⟨k, e, l, c⟩ x s' v :=
 ⟨h.1, Nat.le_trans hq h.2.1, fun hn => absurd he hn, h.2.2.2⟩
theorem Got.last {α β : Type} {ts : List Tok} {s s2 : PS} {x : Except Flt (α × Nat)} {y : α → Nat → Except Flt (β × Nat)} {a : α} {b : β} (h1 : Got ts s x s2 a) (h2 : Got ts s2 (y a s2.k) s2 b) : Got ts s (x >>= fun p => y p.1 p.2) s2 b := Got.bind h1 h2
theorem Got.next {α : Type} {x : Except Flt α} {k k2 : Nat} {v : α} (h : (x.map fun a => (a, k)) = .ok (v, k2)) : k2 = k := by
 cases x with
 | ok a => cases h; rfl
 | error f => cases h
theorem XkP {ts : List Tok} (hv : VT ts) {s : List UInt8} (k : Nat) (hk : k < ts.length) (h : gIs ts k s = true) : k + 1 < ts.length := by
 simp only [gIs, Bool.and_eq_true, beq_iff_eq, Xbo hk] at h
 exact hv k hk (by omega)
theorem XeV {α : Type} (el : Nat → List α → Except Flt α) (st : Nat) (ts : List Tok) (k : Nat) (out : List α) : XbV el st ts k out = ((el k out).map fun x => (x, k + st)) >>= fun p => if p.2 < ts.length ∧ gIs ts p.2 [44] = true then XbV el st ts (p.2 + 1) (out ++ [p.1]) else .ok (out ++ [p.1], p.2) := by
 rw [XbV]
 cases el k out with
 | error f => rfl
 | ok x =>
  simp only [Except.map, bind, Except.bind]
  split <;> rfl
def Xfr (out : List (List UInt8)) (t : Tok) : Except Flt (List UInt8) := if 16 ≤ out.length then .error (flt 1 t) else if out.contains t.text then .error (flt 5 t) else .ok t.text
theorem XfT (ts : List Tok) (k : Nat) (out : List (List UInt8)) : (Xdc ts k out).map (fun x => (x, k + 1)) = ((Xbi ts k 1 32).map fun t => (t, k + 1)) >>= fun p => (Xfr out p.1).map fun x => (x, p.2) := by
 unfold Xdc Xes Xfr
 cases Xbi ts k 1 32 with
 | error f => rfl
 | ok t =>
  simp only [Except.map, bind, Except.bind, decide_eq_true_eq]
  by_cases h : 16 ≤ out.length
  ·rw [if_pos h, if_pos h]
  ·rw [if_neg h, if_neg h]
set_option maxRecDepth 100000 in
set_option maxHeartbeats 8000000 in
theorem Xr2 (b : Nat) (ts : List Tok) (s : PS) (sv : AV) (hsv : sv.one = true) (hk : s.k < ts.length) (hl : ts.length ≤ 1000000) (hv : VT ts) :
  Xa8 Tryz.prog 210 [.box b (s.cells ts sv)] [.x (.pointer (some ⟨b, 0, none⟩))] (fun r H' => ∃ s' ns, r = .sq ns.length (sa ns) ∧ H' = [.box b (PS.cells s' ts sv)] ∧ Got ts s (XbV (Xdc ts) 1 ts s.k []) s' ns ∧ ns.length ≤ s'.k) := by
 obtain ⟨k, e, l, c⟩ := s
 simp only at hk
 refine XaG Tryz.func210 rfl ?_
 simp only [Tryz.ntmps210, Xu2, Xu5, Xu6, Xu7, Xva, Xu9, Nat.reduceAdd, Nat.reduceSub]
 (repeat' (first | with_reducible (first | refine Xah ?_ | refine Xac ?_ | refine Xan ?_ | refine Xae ?_ | refine Xaa ?_) | ((apply Xad rfl); (case h => (((apply Xab 0 rfl; (exact Xao _ rfl))))); (case hT => ((try simp only [wtn]); rfl))) | fail))
 refine XbA 9 1 ?_
 refine XaT (S := Nat × Int × Int × Int × List (List UInt8) × Option Addr × Nat) (fun s => frm 38 [(0, .x (.pointer (some ⟨b, 0, none⟩))), (3, .x (.slice s.2.2.2.2.2.1 s.2.2.2.2.1.length s.2.2.2.2.2.2))])
  (fun s => [.box b (pc ts s.1 s.2.1 s.2.2.1 s.2.2.2.1 sv), .row s.2.2.2.2.2.1 s.2.2.2.2.1.length s.2.2.2.2.2.2 9 1 (sa s.2.2.2.2.1)]) (fun s => s.1 < ts.length ∧ s.2.2.2.2.1.length ≤ s.1 ∧ ∀ s' v, Got ts ⟨s.1, s.2.1, s.2.2.1, s.2.2.2.1⟩ (XbV (Xdc ts) 1 ts s.1 s.2.2.2.2.1) s' v → Got ts ⟨k, e, l, c⟩ (XbV (Xdc ts) 1 ts k []) s' v) (fun s => ts.length - s.1) (k, e, l, c, [], none, 0) ?a ⟨hk, Nat.zero_le _, fun _ _ h => h⟩ fun s hs => ?_
 case a => exact XaK.mk' [] [_, _] (List.Perm.swap _ _ _) (XaE.refl _ _) (by (repeat' (first | exact VwL.nil | (refine VwL.cons ?_ ?_) | exact Vw.refl _ | exact Vw.top _ | fail)))
 obtain ⟨kk, ee, ll, cc, ns, ad, cap⟩ := s
 obtain ⟨g2, g4, g5⟩ := hs
 simp only at g2 g4 g5
 have g6 := Lib.hid g5
 clear g5
 have hv' := fun k => XkP hv (s := [44]) k
 have hT := Xm5 b ts ⟨kk, ee, ll, cc⟩ sv hsv 1 32 g2 hl hv (by decide)
 simp only [Xbo g2] at hT
 replace hT := hT.mono (Q' := fun r H' => ∃ k1 e1 l1 c1, r = ts[kk].av ∧ H' = [.box b (pc ts k1 e1 l1 c1 sv)] ∧ k1 < ts.length ∧ Got ts ⟨kk, ee, ll, cc⟩ ((Xbi ts kk 1 32).map fun t => (t, kk + 1)) ⟨k1, e1, l1, c1⟩ ts[kk]) (by rintro r H' ⟨⟨k1, e1, l1, c1⟩, h1, h2, h3⟩; exact ⟨k1, e1, l1, c1, h1, h2, h3.1, h3⟩)
 simp only [frm, Xu6, Xu7, Xu0, Xu1, Xvd, Xve]
 (repeat' (first | with_reducible (first | refine Xah ?_ | refine Xac ?_ | refine Xan ?_ | refine Xat ?_ | refine Xax ?_ | refine Xae ?_ | refine Xaa ?_ | refine Xaw ?_ | refine Xag ?_ | refine Xav ?_) | (refine Xai _ rfl (fun h => ?_) (fun h => ?_) <;> first | (exact absurd h (by decide)) | ((try (simp only [whn] at h)); skip)) | ((apply Xad rfl); (case h => ((first | (apply Xab 0 rfl; (first | exact Xar _ rfl | exact Xao _ rfl)) | (apply Xab 4 rfl; (exact Xbf _ rfl (by first | exact .inl ⟨_, rfl⟩ | fail))) | (apply Xab 5 rfl; (exact Xal _ _ _ _ _ _ rfl rfl Xa6.out)) | (apply Xab 6 rfl; (exact XaA _ _ _ _ _ _ _ _ rfl rfl XaZ.out XaO.out (by first | exact XuY rfl | fail) (by first | exact XuY rfl | fail))) | (apply Xab 11 rfl; (first | exact Xbb 189 Tryz.f189 _ _ rfl rfl Tryz.func189 (by decide) rfl (by (repeat' (first | exact VwL.nil | (refine VwL.cons ?_ ?_) | exact Vw.box (List.Mem.tail _ (List.Mem.head _)) (VwL.refl _ _) | fail)); done) (Xca ts _ _ _ _ sv) | exact Xbb 206 Tryz.f206 _ _ rfl rfl Tryz.func206 (by decide) rfl (by (repeat' (first | exact VwL.nil | (refine VwL.cons ?_ ?_) | exact Vw.refl _ | exact Vw.row (List.Mem.tail _ (List.Mem.tail _ (List.Mem.head _))) (VwL.refl _ _) | fail)); done) (Xls ns _ (by omega)) | exact Xbb 201 Tryz.f201 _ _ rfl rfl Tryz.func201 (by decide) rfl (by (repeat' (first | exact VwL.nil | (refine VwL.cons ?_ ?_) | exact Vw.refl _ | exact Vw.box (List.Mem.tail _ (List.Mem.head _)) (VwL.refl _ _) | exact Vw.box (List.Mem.tail _ (List.Mem.tail _ (List.Mem.head _))) (VwL.refl _ _) | fail)); done) (Xuq ts k1 _ _ _ sv [44] g0 hl))) | (apply XaF; (case hs => (intro _ _ h; cases h)); (case hx => rfl); (case hrun => (intro w; simp [wtb, AV.val, go_sem]; (try go_bits); rfl)))))); (case hT => ((try simp (disch := omega) only [wtn, pc, PS.cells, Tok.av, Xu3, Xu0, Xu1, Xu4, Xu8, Nat.reduceAdd, Nat.reduceMul, Nat.reduceSub, ↓reduceIte, Nat.reduceEqDiff]); rfl))) | (refine Xaj rfl ?_; ((first | (refine Xaq 11 rfl ?_; (first | (refine Xam 203 Tryz.f203 [_] _ _ _ rfl rfl Tryz.func203 (by decide) rfl (XuZ _) (VwL.refl _ _) (hT) ?_; rintro _ _ ⟨k1, e1, l1, c1, rfl, rfl, g0, g1⟩) | (refine Xam 202 Tryz.f202 [_] _ _ _ rfl rfl Tryz.func202 (by decide) rfl (Xvc (l₁ := [_])) (VwL.refl _ _) (Xnq _ ts k1 _ _ _ sv hsv _ ts[kk] (by omega)) ?_; rintro _ _ ⟨rfl, rfl⟩) | (refine Xam 202 Tryz.f202 [_] _ _ _ rfl rfl Tryz.func202 (by decide) rfl (XuZ _) (VwL.refl _ _) (Xov _ ts k1 _ _ _ sv hsv _ ts[kk] (by omega)) ?_; rintro _ _ ⟨rfl, rfl⟩))) | (refine Xaq 13 rfl ?_; ((refine XaH _ _ _ _ _ _ _ _ _ _ _ _ _ _ rfl rfl XbD.out (Src.row _ rfl XbD.out) XaQ.out (by first | rfl | fail) (XcD _ _ (by omega) (by decide)) (fun ad cap => ?_)))) | (refine Xaq 14 rfl ?_; ((refine XaN _ _ rfl Xbp.out rfl (fun b => ?_)))) | (refine Xaq 16 rfl ?_; ((refine Xau _ _ _ _ _ _ _ rfl rfl XaZ.out XaR.out (by first | rfl | fail) (by first | exact XuY rfl | fail) ?_))) | (refine Xaq 17 rfl ?_; ((refine XaB _ _ _ _ _ _ _ _ rfl XaQ.out (by first | rfl | fail) rfl (by decide) rfl (fun b => ?_))))); apply Xak; (case hT => ((try simp (disch := omega) only [wtn, pc, PS.cells, Tok.av, Xu3, Xu0, Xu1, Xu4, Xu8, Nat.reduceAdd, Nat.reduceMul, Nat.reduceSub, ↓reduceIte, Nat.reduceEqDiff]); rfl)); (case hH => ((try simp (disch := omega) only [wtn, pc, PS.cells, Tok.av, Xu3, Xu0, Xu1, Xu4, Xu8, Nat.reduceAdd, Nat.reduceMul, Nat.reduceSub, ↓reduceIte, Nat.reduceEqDiff]); rfl)))) | fail))
 all_goals first
  | (refine Xaf _ _ (Xbl rfl (RV.tmp _) (XaK.mk' [_, _] [_] (.cons _ (List.Perm.swap _ _ _)) (XaE.refl _ _) (VwL.cons Vw.nil VwL.nil))) ?_
     exact ⟨⟨k1, e1, l1, c1⟩, [], rfl, rfl, g6.out _ _ ((Got.bind (y := fun x q => if q < ts.length ∧ gIs ts q [44] = true then XbV (Xdc ts) 1 ts (q + 1) (ns ++ [x]) else .ok (ns ++ [x], q)) ((Got.bind (y := fun t q => (Xfr ns t).map fun x => (x, q)) g1 (Got.bad g1.1 (by assumption) _ ts[kk].text)).of (XfT ts kk ns)) (Got.bad g1.1 (by assumption) _ _)).of (XeV _ _ _ _ _)), Nat.zero_le _⟩)
  | (have hk1 := hv' k1 g0 h.2
     refine ⟨(k1 + 1, e1, l1, c1, ns ++ [ts[kk].text], ad, cap), ?_, ⟨?_, ?_, ?_⟩, ?_⟩
     rotate_left 4
     ·simp only [XiL, Xvb, Xu2, Xu5]
      exact XaK.mk' [_, _] [_, _] (XuZ _) (XaE.refl _ _) (by (repeat' (first | exact VwL.nil | (refine VwL.cons ?_ ?_) | exact Vw.refl _ | exact Vw.top _ | fail)))
     ·have q := (g1.ok (by assumption)).2.1; have q2 := Got.next q; simp only at q2 ⊢; omega
     ·simp only; omega
     ·have q := (g1.ok (by assumption)).2.1; have q2 := Got.next q; simp only at q2; simp only [Xvb, Xu2, Xu5]; omega
     ·intro s' v hg
      simp only at hg
      exact g6.out _ _ ((Got.bind (y := fun x q => if q < ts.length ∧ gIs ts q [44] = true then XbV (Xdc ts) 1 ts (q + 1) (ns ++ [x]) else .ok (ns ++ [x], q)) ((Got.bind (y := fun t q => (Xfr ns t).map fun x => (x, q)) g1 ((Got.pure g1.1 ts[kk].text).of (by rw [Xfr, if_neg (by omega), if_neg (by simpa using ‹¬ ts[kk].text ∈ ns›)]; rfl))).of (XfT ts kk ns)) ((hg.step (by assumption) (Nat.le_succ _)).of (if_pos ⟨g0, h.2⟩))).of (XeV _ _ _ _ _)))
  | (refine Xaf _ _ (Xbl rfl (RV.tmp _) (XaK.mk' [_, _, _] [_] (.cons _ (.cons _ (List.Perm.swap _ _ _))) (XaE.refl _ _) (VwL.cons (Vw.row (List.Mem.tail _ (List.Mem.tail _ (List.Mem.head _))) (VwL.refl _ _)) VwL.nil))) ?_
     refine ⟨⟨k1, _, _, _⟩, ns ++ [ts[kk].text], ?_, rfl, g6.out _ _ ((Got.last (y := fun x q => if q < ts.length ∧ gIs ts q [44] = true then XbV (Xdc ts) 1 ts (q + 1) (ns ++ [x]) else .ok (ns ++ [x], q)) ((Got.bind (y := fun t q => (Xfr ns t).map fun x => (x, q)) (b := ts[kk].text) g1 ?_).of (XfT ts kk ns)) ?_).of (XeV _ _ _ _ _)), ?_⟩
     ·simp only [XiL, Xvb, Xu2, Xu5]; rfl
     ·first
       | exact (Got.err g1.1 (by assumption) 1 (by decide) ts[kk] _).of (by rw [Xfr, if_pos (by omega)]; rfl)
       | exact (Got.err g1.1 (by assumption) 5 (by decide) ts[kk] _).of (by rw [Xfr, if_neg (by omega), if_pos (by simpa using ‹ts[kk].text ∈ ns›)]; rfl)
       | exact (Got.pure g1.1 ts[kk].text).of (by rw [Xfr, if_neg (by omega), if_neg (by simpa using ‹¬ ts[kk].text ∈ ns›)]; rfl)
     ·first
       | (refine Got.bad ?_ ?_ _ _; (exact g1.1); (simp only; decide))
       | exact (Got.pure g1.1 _).of (by rw [if_neg (by simp_all)])
     ·simp only [Xvb, Xu2, Xu5]
      have q := Got.next (g1.ok (by assumption)).2.1
      simp only at q
      omega)
  | (refine Xaf _ _ (Xbl rfl (RV.tmp _) (XaK.mk' [_, _, _] [_] (.cons _ (Xvc (l₁ := [_, _]) (l₂ := [])).symm) (XaE.refl _ _) (VwL.cons (Vw.row (List.Mem.tail _ (List.Mem.tail _ (List.Mem.head _))) (VwL.refl _ _)) VwL.nil))) ?_
     refine ⟨⟨k1, _, _, _⟩, ns ++ [ts[kk].text], ?_, rfl, g6.out _ _ ((Got.last (y := fun x q => if q < ts.length ∧ gIs ts q [44] = true then XbV (Xdc ts) 1 ts (q + 1) (ns ++ [x]) else .ok (ns ++ [x], q)) ((Got.bind (y := fun t q => (Xfr ns t).map fun x => (x, q)) (b := ts[kk].text) g1 ?_).of (XfT ts kk ns)) ?_).of (XeV _ _ _ _ _)), ?_⟩
     ·simp only [XiL, Xvb, Xu2, Xu5]; rfl
     ·first
       | exact (Got.err g1.1 (by assumption) 1 (by decide) ts[kk] _).of (by rw [Xfr, if_pos (by omega)]; rfl)
       | exact (Got.err g1.1 (by assumption) 5 (by decide) ts[kk] _).of (by rw [Xfr, if_neg (by omega), if_pos (by simpa using ‹ts[kk].text ∈ ns›)]; rfl)
       | exact (Got.pure g1.1 ts[kk].text).of (by rw [Xfr, if_neg (by omega), if_neg (by simpa using ‹¬ ts[kk].text ∈ ns›)]; rfl)
     ·first
       | (refine Got.bad ?_ ?_ _ _; (exact g1.1); (simp only; decide))
       | exact (Got.pure g1.1 _).of (by rw [if_neg (by simp_all)])
     ·simp only [Xvb, Xu2, Xu5]
      have q := Got.next (g1.ok (by assumption)).2.1
      simp only at q
      omega)
theorem Xqa (s : List UInt8) : Xa8 Tryz.prog 208 [] [.x (.string (bs s))] (fun r H' => r = .x (.int .i64 (XmK s)) ∧ H' = []) := XkL s
theorem Xho (b : Nat) (ts : List Tok) (k : Nat) (e l c : Int) (sv : AV) (hsv : sv.one = true) (kind : Int) (most : Nat) (hk : k < ts.length) (hl : ts.length ≤ 1000000) (hv : VT ts) (hkd : kind ≠ 6) :
  Xa8 Tryz.prog 203 [.box b (pc ts k e l c sv)] [.x (.pointer (some ⟨b, 0, none⟩)), .x (.int .i64 kind), .x (.int .i64 most)] (fun r H' => ∃ k1 e1 l1 c1, r = (ts[k]'hk).av ∧ H' = [.box b (pc ts k1 e1 l1 c1 sv)] ∧ k1 < ts.length ∧ Got ts ⟨k, e, l, c⟩ ((Xbi ts k kind most).map fun t => (t, k + 1)) ⟨k1, e1, l1, c1⟩ ts[k]) := by
 have h := Xm5 b ts ⟨k, e, l, c⟩ sv hsv kind most hk hl hv hkd
 simp only [Xbo hk] at h
 exact h.mono fun r H' ⟨⟨k1, e1, l1, c1⟩, h1, h2, h3⟩ => ⟨k1, e1, l1, c1, h1, h2, h3.1, h3⟩
theorem Xld (b : Nat) (ts : List Tok) (k : Nat) (e l c : Int) (sv : AV) (hsv : sv.one = true) (t : List UInt8) (hk : k < ts.length) (hl : ts.length ≤ 1000000) (hv : VT ts) :
  Xa8 Tryz.prog 204 [.box b (pc ts k e l c sv)] [.x (.pointer (some ⟨b, 0, none⟩)), .x (.string (bs t))] (fun r H' => ∃ k1 e1 l1 c1, r = .x (.tuple #[]) ∧ H' = [.box b (pc ts k1 e1 l1 c1 sv)] ∧ k1 < ts.length ∧ Got ts ⟨k, e, l, c⟩ ((Xb6 ts k t).map fun u => (u, k + 1)) ⟨k1, e1, l1, c1⟩ ()) :=
 (Xtl b ts ⟨k, e, l, c⟩ sv hsv t hk hl hv).mono fun r H' ⟨⟨k1, e1, l1, c1⟩, h1, h2, h3⟩ => ⟨k1, e1, l1, c1, h1, h2, h3.1, h3⟩
theorem XdK (b : Nat) (ts : List Tok) (k : Nat) (e l c : Int) (sv : AV) (hsv : sv.one = true) (hk : k < ts.length) (hl : ts.length ≤ 1000000) (hv : VT ts) (hN : XeM ts) :
  Xa8 Tryz.prog 212 [.box b (pc ts k e l c sv)] [.x (.pointer (some ⟨b, 0, none⟩))] (fun r H' => ∃ k1 e1 l1 c1 n, r = .x (.int .u64 n) ∧ H' = [.box b (pc ts k1 e1 l1 c1 sv)] ∧ k1 < ts.length ∧ Got ts ⟨k, e, l, c⟩ ((Xc6 ts k).map fun n => (n, k + 1)) ⟨k1, e1, l1, c1⟩ n) :=
 (XpW b ts ⟨k, e, l, c⟩ sv hsv hk hl hv hN).mono fun r H' ⟨⟨k1, e1, l1, c1⟩, n, h1, h2, h3⟩ => ⟨k1, e1, l1, c1, n, h1, h2, h3.1, h3⟩
theorem Got.nx {α : Type} {ts : List Tok} {s : PS} {k2 k1 : Nat} {e1 l1 c1 : Int} {x : Except Flt α} {v : α} (h : Got ts s (x.map fun a => (a, k2)) ⟨k1, e1, l1, c1⟩ v) (he : e1 = 0) : k1 = k2 ∧ s.e = 0 := ⟨Got.next (h.ok he).2.1, (h.ok he).1⟩
def XgU (out : List (Int × Int)) (t : Tok) : Except Flt Int := if 5 ≤ out.length then .error (flt 1 t) else if XmK t.text = 0 then .error (flt 4 t) else .ok (XmK t.text)
theorem Xpl (ts : List Tok) (k : Nat) (out : List (Int × Int)) : (Xdd ts k out).map (fun x => (x, k + 2)) = ((Xbi ts k 1 8192).map fun t => (t, k + 1)) >>= fun p => ((XgU out p.1).map fun x => (x, p.2)) >>= fun q => ((Xc6 ts q.2).map fun n => (n, q.2 + 1)).map fun n => ((q.1, n.1), n.2) := by
 unfold Xdd XgU
 cases Xbi ts k 1 8192 with
 | error f => rfl
 | ok t =>
  simp only [Except.map, bind, Except.bind]
  by_cases h : 5 ≤ out.length
  ·rw [if_pos h, if_pos h]
  ·rw [if_neg h, if_neg h]
   by_cases h2 : XmK t.text = 0
   ·rw [if_pos h2, if_pos h2]
   ·rw [if_neg h2, if_neg h2]
    cases h3 : Xc6 ts (k + 1) <;> simp [h3]
theorem Xga {ts : List Tok} {s s1 s2 s3 s4 : PS} {rs : List (Int × Int)} {t : Tok} {sg n : Int} {v : List (Int × Int)}
  (g1 : Got ts s ((Xbi ts s.k 1 8192).map fun t => (t, s.k + 1)) s1 t) (g2 : Got ts s1 ((XgU rs t).map fun x => (x, s1.k)) s2 sg) (g3 : Got ts s2 ((Xc6 ts s2.k).map fun n => (n, s2.k + 1)) s3 n)
  (g4 : Got ts s3 (if s3.k < ts.length ∧ gIs ts s3.k [44] = true then XbV (Xdd ts) 2 ts (s3.k + 1) (rs ++ [(sg, n)]) else .ok (rs ++ [(sg, n)], s3.k)) s4 v) : Got ts s (XbV (Xdd ts) 2 ts s.k rs) s4 v := by
 refine (Got.bind (y := fun x q => if q < ts.length ∧ gIs ts q [44] = true then XbV (Xdd ts) 2 ts (q + 1) (rs ++ [x]) else .ok (rs ++ [x], q)) (a := (sg, n)) ?_ g4).of (XeV _ _ _ _ _)
 refine (Got.bind (y := fun t q => ((XgU rs t).map fun x => (x, q)) >>= fun q => ((Xc6 ts q.2).map fun n => (n, q.2 + 1)).map fun n => ((q.1, n.1), n.2)) g1 ?_).of (Xpl ts s.k rs)
 exact Got.bind (y := fun x q => ((Xc6 ts q).map fun n => (n, q + 1)).map fun n => ((x, n.1), n.2)) g2 (g3.val fun n => (sg, n))
set_option maxRecDepth 100000 in
set_option maxHeartbeats 8000000 in
theorem Xqh (b : Nat) (ts : List Tok) (k : Nat) (e l c : Int) (sv : AV) (hsv : sv.one = true) (hk : k < ts.length) (hl : ts.length ≤ 1000000) (hv : VT ts) (hN : XeM ts) :
  Xa8 Tryz.prog 214 [.box b (pc ts k e l c sv)] [.x (.pointer (some ⟨b, 0, none⟩))] (fun r H' => ∃ k1 e1 l1 c1, ∃ rs : List (Int × Int), r = .sq rs.length (ra rs) ∧ H' = [.box b (pc ts k1 e1 l1 c1 sv)] ∧ k1 < ts.length ∧ Got ts ⟨k, e, l, c⟩ (XbV (Xdd ts) 2 ts k []) ⟨k1, e1, l1, c1⟩ rs ∧ rs.length ≤ k1) := by
 have hN' := Lib.hid hN
 clear hN
 refine XaG Tryz.func214 rfl ?_
 simp only [Tryz.ntmps214, Xu2, Xu5, Xu6, Xu7, Xva, Xu9, Nat.reduceAdd, Nat.reduceSub]
 (repeat' (first | with_reducible (first | refine Xah ?_ | refine Xac ?_ | refine Xan ?_ | refine Xae ?_ | refine Xaa ?_) | ((apply Xad rfl); (case h => (((apply Xab 0 rfl; (exact Xao _ rfl))))); (case hT => ((try simp only [wtn]); rfl))) | fail))
 refine XbA 53 2 ?_
 refine XaT (S := Nat × Int × Int × Int × List (Int × Int) × Option Addr × Nat) (fun s => frm 42 [(0, .x (.pointer (some ⟨b, 0, none⟩))), (3, .x (.slice s.2.2.2.2.2.1 s.2.2.2.2.1.length s.2.2.2.2.2.2))])
  (fun s => [.box b (pc ts s.1 s.2.1 s.2.2.1 s.2.2.2.1 sv), .row s.2.2.2.2.2.1 s.2.2.2.2.1.length s.2.2.2.2.2.2 53 2 (ra s.2.2.2.2.1)]) (fun s => s.1 < ts.length ∧ s.2.2.2.2.1.length ≤ s.1 ∧ ∀ s' v, Got ts ⟨s.1, s.2.1, s.2.2.1, s.2.2.2.1⟩ (XbV (Xdd ts) 2 ts s.1 s.2.2.2.2.1) s' v → Got ts ⟨k, e, l, c⟩ (XbV (Xdd ts) 2 ts k []) s' v) (fun s => ts.length - s.1) (k, e, l, c, [], none, 0) ?a ⟨hk, Nat.zero_le _, fun _ _ h => h⟩ fun s hs => ?_
 case a => exact XaK.mk' [] [_, _] (List.Perm.swap _ _ _) (XaE.refl _ _) (by (repeat' (first | exact VwL.nil | (refine VwL.cons ?_ ?_) | exact Vw.refl _ | exact Vw.top _ | fail)))
 obtain ⟨kk, ee, ll, cc, rs, ad, cap⟩ := s
 obtain ⟨g2, g4, g5⟩ := hs
 simp only at g2 g4 g5
 have g6 := Lib.hid g5
 clear g5
 have hv' := fun k => XkP hv (s := [44]) k
 simp only [frm, Xu6, Xu7, Xu0, Xu1, Xvd, Xve]
 (repeat' (first | with_reducible (first | refine Xah ?_ | refine Xac ?_ | refine Xan ?_ | refine Xat ?_ | refine Xax ?_ | refine Xae ?_ | refine Xaa ?_ | refine Xaw ?_ | refine Xag ?_ | refine Xav ?_) | (refine Xai _ rfl (fun h => ?_) (fun h => ?_) <;> ((try (simp only [whn] at h)); skip)) | ((apply Xad rfl); (case h => ((first | (apply Xab 0 rfl; (first | exact Xar _ rfl | exact Xao _ rfl)) | (apply Xab 4 rfl; (exact Xbf _ rfl (by first | exact .inl ⟨_, rfl⟩ | fail))) | (apply Xab 5 rfl; (exact Xal _ _ _ _ _ _ rfl rfl Xa6.out)) | (apply Xab 6 rfl; (exact XaA _ _ _ _ _ _ _ _ rfl rfl XaZ.out XaO.out (by first | exact XuY rfl | fail) (by first | exact XuY rfl | fail))) | (apply Xab 10 rfl; (exact XaU _ _ _ _ _ rfl HPl.out (by first | rfl | fail) rfl)) | (apply Xab 11 rfl; (first | exact Xbb 189 Tryz.f189 _ _ rfl rfl Tryz.func189 (by decide) rfl (by (repeat' (first | exact VwL.nil | (refine VwL.cons ?_ ?_) | exact Vw.box (List.Mem.tail _ (List.Mem.head _)) (VwL.refl _ _) | fail)); done) (Xca ts _ _ _ _ sv) | exact Xaz 208 Tryz.f208 _ _ rfl rfl Tryz.func208 (by decide) rfl (VwL.refl _ _) (Xqa _) | exact Xbb 201 Tryz.f201 _ _ rfl rfl Tryz.func201 (by decide) rfl (by (repeat' (first | exact VwL.nil | (refine VwL.cons ?_ ?_) | exact Vw.refl _ | exact Vw.box (List.Mem.tail _ (List.Mem.head _)) (VwL.refl _ _) | fail)); done) (Xuq ts k3 _ _ _ sv [44] q3 hl))) | (apply XaF; (case hs => (intro _ _ h; cases h)); (case hx => rfl); (case hrun => (intro w; simp [wtb, AV.val, go_sem]; (try go_bits); rfl)))))); (case hT => ((try simp (disch := omega) only [wtn, pc, PS.cells, Tok.av, Xu3, Xu0, Xu1, Xu4, Xu8, Nat.reduceAdd, Nat.reduceMul, Nat.reduceSub, ↓reduceIte, Nat.reduceEqDiff]); rfl))) | (refine Xaj rfl ?_; ((first | (refine Xaq 11 rfl ?_; (first | (refine Xam 203 Tryz.f203 [_] _ _ _ rfl rfl Tryz.func203 (by decide) rfl (XuZ _) (VwL.refl _ _) (Xho _ ts kk _ _ _ sv hsv 1 8192 (by assumption) hl hv (by decide)) ?_; rintro _ _ ⟨k1, e1, l1, c1, rfl, rfl, q1, g1⟩) | (refine Xam 202 Tryz.f202 [_] _ _ _ rfl rfl Tryz.func202 (by decide) rfl (Xvc (l₁ := [_])) (VwL.refl _ _) (Xnq _ ts k1 _ _ _ sv hsv _ ts[kk] (by omega)) ?_; rintro _ _ ⟨rfl, rfl⟩) | (refine Xam 202 Tryz.f202 [_] _ _ _ rfl rfl Tryz.func202 (by decide) rfl (XuZ _) (VwL.refl _ _) (Xov _ ts k1 _ _ _ sv hsv _ ts[kk] (by omega)) ?_; rintro _ _ ⟨rfl, rfl⟩) | (refine Xam 212 Tryz.f212 [_] _ _ _ rfl rfl Tryz.func212 (by decide) rfl (XuZ _) (VwL.refl _ _) (XdK _ ts k1 _ _ _ sv hsv q1 hl hv hN'.out) ?_; rintro _ _ ⟨k3, e3, l3, c3, n3, rfl, rfl, q3, g3⟩) | (refine Xam 212 Tryz.f212 [_] _ _ _ rfl rfl Tryz.func212 (by decide) rfl (Xvc (l₁ := [_])) (VwL.refl _ _) (XdK _ ts k1 _ _ _ sv hsv q1 hl hv hN'.out) ?_; rintro _ _ ⟨k3, e3, l3, c3, n3, rfl, rfl, q3, g3⟩))) | (refine Xaq 13 rfl ?_; ((refine XaH _ _ _ _ _ _ _ _ _ _ _ _ _ _ rfl rfl XbD.out (Src.row _ rfl XbD.out) XaQ.out (by first | rfl | fail) (XcD _ _ (by omega) (by decide)) (fun ad cap => ?_)))) | (refine Xaq 14 rfl ?_; ((refine XaN _ _ rfl Xbp.out rfl (fun b => ?_)))) | (refine Xaq 16 rfl ?_; ((refine Xau _ _ _ _ _ _ _ rfl rfl XaZ.out XaR.out (by first | rfl | fail) (by first | exact XuY rfl | fail) ?_))) | (refine Xaq 17 rfl ?_; ((refine XaB _ _ _ _ _ _ _ _ rfl XaQ.out (by first | rfl | fail) rfl (by decide) rfl (fun b => ?_))))); apply Xak; (case hT => ((try simp (disch := omega) only [wtn, pc, PS.cells, Tok.av, Xu3, Xu0, Xu1, Xu4, Xu8, Nat.reduceAdd, Nat.reduceMul, Nat.reduceSub, ↓reduceIte, Nat.reduceEqDiff]); rfl)); (case hH => ((try simp (disch := omega) only [wtn, pc, PS.cells, Tok.av, Xu3, Xu0, Xu1, Xu4, Xu8, Nat.reduceAdd, Nat.reduceMul, Nat.reduceSub, ↓reduceIte, Nat.reduceEqDiff]); rfl)))) | fail))
 all_goals first
  | (refine Xaf _ _ (Xbl rfl (RV.tmp _) (XaK.mk' [_, _] [_] (.cons _ (List.Perm.swap _ _ _)) (XaE.refl _ _) (VwL.cons Vw.nil VwL.nil))) ?_
     exact ⟨k1, e1, l1, c1, [], rfl, rfl, q1, g6.out _ _ (Xga (sg := 0) (n := 0) g1 (Got.bad q1 (by assumption) _ _) (Got.bad q1 (by assumption) _ _) (Got.bad q1 (by assumption) _ _)), Nat.zero_le _⟩)
  | (have hk1 := hv' k3 q3 h.2
     have hx := g1.nx (by assumption)
     have hy := g3.2.1
     simp only at hy
     refine ⟨(k3 + 1, e3, l3, c3, rs ++ [(XmK ts[kk].text, n3)], ad, cap), ?_, ⟨?_, ?_, ?_⟩, ?_⟩
     rotate_left 4
     ·simp only [XnG, Xvb, Xu2, Xu5]
      exact XaK.mk' [_, _] [_, _] (.cons _ (List.Perm.swap _ _ _)) (XaE.refl _ _) (by (repeat' (first | exact VwL.nil | (refine VwL.cons ?_ ?_) | exact Vw.refl _ | exact Vw.top _ | fail)))
     ·simp only; omega
     ·simp only; omega
     ·simp only [Xvb, Xu2, Xu5]; omega
     ·intro s' v hg
      simp only at hg
      refine g6.out _ _ (Xga (sg := XmK ts[kk].text) g1 ?_ g3 ((hg.step h.1 (Nat.le_succ _)).of (if_pos ⟨q3, h.2⟩)))
      first
       | exact (Got.err q1 (by assumption) 1 (by decide) ts[kk] _).of (by rw [XgU, if_pos (by omega)]; rfl)
       | exact (Got.err q1 (by assumption) 4 (by decide) ts[kk] _).of (by rw [XgU, if_neg (by omega), if_pos (by assumption)]; rfl)
       | exact (Got.pure q1 _).of (by rw [XgU, if_neg (by omega), if_neg (by assumption)]; rfl))
  | (have hx := g1.nx (by assumption)
     have hy := g3.2.1
     simp only at hy
     first
      | refine Xaf _ _ (Xbl rfl (RV.tmp _) (XaK.mk' [_, _, _] [.box _ (pc ts k3 e3 l3 c3 sv)] (.cons _ (Xvc (l₁ := [_, _]) (l₂ := [])).symm) (XaE.refl _ _) (VwL.cons (Vw.row (List.Mem.tail _ (List.Mem.tail _ (List.Mem.head _))) (VwL.refl _ _)) VwL.nil))) ?_
      | refine Xaf _ _ (Xbl rfl (RV.tmp _) (XaK.mk' [_, _, _] [.box _ (pc ts k3 e3 l3 c3 sv)] (.cons _ (.cons _ (List.Perm.swap _ _ _))) (XaE.refl _ _) (VwL.cons (Vw.row (List.Mem.tail _ (List.Mem.tail _ (List.Mem.head _))) (VwL.refl _ _)) VwL.nil))) ?_
     refine ⟨k3, e3, l3, c3, rs ++ [(XmK ts[kk].text, n3)], ?_, rfl, q3, g6.out _ _ (Xga (sg := XmK ts[kk].text) g1 ?_ g3 ?_), ?_⟩
     ·simp only [XnG, Xvb, Xu2, Xu5]; rfl
     ·first
       | exact (Got.err q1 (by assumption) 1 (by decide) ts[kk] _).of (by rw [XgU, if_pos (by omega)]; rfl)
       | exact (Got.err q1 (by assumption) 4 (by decide) ts[kk] _).of (by rw [XgU, if_neg (by omega), if_pos (by assumption)]; rfl)
       | exact (Got.pure q1 _).of (by rw [XgU, if_neg (by omega), if_neg (by assumption)]; rfl)
     ·by_cases he : e3 = 0
      ·exact (Got.pure q3 _).of (if_neg (fun hq => by rcases h with h | h; exact h he; exact absurd (h ▸ hq.2) (by decide)))
      ·exact Got.bad q3 he _ _
     ·simp only [Xvb, Xu2, Xu5]; omega)
def Xi2 (ts : List Tok) (k : Nat) (j : JF) : Except Flt (JF × Nat) := do
 let n ← Xc6 ts k
 if n < 1 ∨ 16 < n then .error (flt 2 (tkA ts k)) else
 let m ← Xc6 ts (k + 1)
 .ok ({ j with burst := n, window := m }, k + 2)
theorem XoH (ts : List Tok) (k : Nat) (j : JF) : Xi2 ts k j = ((Xc6 ts k).map fun n => (n, k + 1)) >>= fun p => (if p.1 < 1 ∨ 16 < p.1 then .error (flt 2 (tkA ts k)) else .ok ((), p.2)) >>= fun q => ((Xc6 ts q.2).map fun n => (n, q.2 + 1)).map fun m => ({ j with burst := p.1, window := m.1 }, m.2) := by
 unfold Xi2
 cases Xc6 ts k with
 | error f => rfl
 | ok n =>
  simp only [Except.map, bind, Except.bind]
  by_cases h : n < 1 ∨ 16 < n
  ·rw [if_pos h, if_pos h]
  ·rw [if_neg h, if_neg h]
   cases h3 : Xc6 ts (k + 1) <;> simp [h3]
theorem XgH {ts : List Tok} {s s1 s2 s3 : PS} {j : JF} {n m : Int} (g1 : Got ts s ((Xc6 ts s.k).map fun n => (n, s.k + 1)) s1 n) (g2 : Got ts s1 (if n < 1 ∨ 16 < n then .error (flt 2 (tkA ts s.k)) else .ok ((), s1.k)) s2 ()) (g3 : Got ts s2 ((Xc6 ts s2.k).map fun n => (n, s2.k + 1)) s3 m) : Got ts s (Xi2 ts s.k j) s3 { j with burst := n, window := m } := by
 refine (Got.bind (y := fun n q => (if n < 1 ∨ 16 < n then .error (flt 2 (tkA ts s.k)) else .ok ((), q)) >>= fun q => ((Xc6 ts q.2).map fun n => (n, q.2 + 1)).map fun m => ({ j with burst := n, window := m.1 }, m.2)) g1 ?_).of (XoH ts s.k j)
 exact Got.bind (y := fun _ q => ((Xc6 ts q).map fun n => (n, q + 1)).map fun m => ({ j with burst := n, window := m.1 }, m.2)) g2 (g3.val fun m => { j with burst := n, window := m })
theorem Xfz (b : Nat) (ts : List Tok) (k : Nat) (e l c : Int) (sv : AV) (hsv : sv.one = true) (e2 : Int) (h2 : e2 ≠ 0) (t : Tok) (hk : k < ts.length) : Xa8 Tryz.prog 202 [.box b (pc ts k e l c sv)] [.x (.pointer (some ⟨b, 0, none⟩)), .x (.int .i64 e2), t.av] (fun r H' => ∃ e1 l1 c1, r = .x (.tuple #[]) ∧ H' = [.box b (pc ts k e1 l1 c1 sv)] ∧ (e1 ≠ 0) ∧ Got ts ⟨k, e, l, c⟩ (.error (flt e2 t) : Except Flt (Unit × Nat)) ⟨k, e1, l1, c1⟩ ()) := by
 refine (Xf9 b ts ⟨k, e, l, c⟩ sv hsv e2 t).mono fun r H' ⟨h1, h3⟩ => ?_
 have g := Got.test (α := Unit) (s := ⟨k, e, l, c⟩) hk e2 h2 t ()
 by_cases h : e = 0
 ·simp only [PS.fail, if_pos h, PS.cells] at h3 g
  exact ⟨_, _, _, h1, h3, h2, g⟩
 ·simp only [PS.fail, if_neg h, PS.cells] at h3 g
  exact ⟨_, _, _, h1, h3, h, g⟩
set_option maxRecDepth 100000 in
set_option maxHeartbeats 8000000 in
theorem Xr0 (b : Nat) (ts : List Tok) (k : Nat) (e l c : Int) (sv : AV) (hsv : sv.one = true) (j : JF) (hk : k < ts.length) (hl : ts.length ≤ 1000000) (hv : VT ts) (hN : XeM ts) :
  Xa8 Tryz.prog 213 [.box b (pc ts k e l c sv)] [.x (.pointer (some ⟨b, 0, none⟩)), .agg j.cells] (fun r H' => ∃ k1 e1 l1 c1 x y, r = .agg { j with burst := x, window := y }.cells ∧ H' = [.box b (pc ts k1 e1 l1 c1 sv)] ∧ k1 < ts.length ∧ Got ts ⟨k, e, l, c⟩ (Xi2 ts k j) ⟨k1, e1, l1, c1⟩ { j with burst := x, window := y }) := by
 have hN' := Lib.hid hN
 clear hN
 unfold JF.cells
 refine XaG Tryz.func213 rfl ?_
 simp only [Tryz.ntmps213, Xu2, Xu5, Xu6, Xu7, Xva, Xu9, Nat.reduceAdd, Nat.reduceSub]
 (repeat' (first | with_reducible (first | refine Xah ?_ | refine Xac ?_ | refine Xat ?_ | refine Xax ?_ | refine Xae ?_ | refine Xaa ?_) | (refine Xai _ rfl (fun h => ?_) (fun h => ?_) <;> ((try (simp only [whn] at h)); skip)) | ((first | apply Xad rfl | apply Xa7 _ _ rfl rfl rfl); (case h => ((try (intro (hp : (_ : Bool) = true); ((try simp only [Bool.and_eq_true, Bool.not_eq_true'] at hp); (try simp only [hp, wte]); (try simp only [whn] at hp)))); (first | (apply Xab 0 rfl; (first | exact Xar _ rfl | exact Xao _ rfl)) | (apply Xab 1 rfl; (first | exact Xbn _ _ _ _ _ rfl rfl rfl rfl | exact XcI _ _ _ _ _ rfl rfl rfl rfl)) | (apply Xab 5 rfl; (exact Xal _ _ _ _ _ _ rfl rfl Xa6.out)) | (apply Xab 6 rfl; (exact XaA _ _ _ _ _ _ _ _ rfl rfl XaZ.out XaO.out (by first | exact XuY rfl | fail) (by first | exact XuY rfl | fail))) | (apply Xab 11 rfl; (first | exact Xbb 189 Tryz.f189 _ _ rfl rfl Tryz.func189 (by decide) rfl (by (repeat' (first | exact VwL.nil | (refine VwL.cons ?_ ?_) | exact Vw.box (List.Mem.head _) (VwL.refl _ _) | fail)); done) (Xca ts _ _ _ _ sv) | exact Xbb 187 Tryz.f187 _ _ rfl rfl Tryz.func187 (by decide) rfl (by (repeat' (first | exact VwL.nil | (refine VwL.cons ?_ ?_) | exact Vw.box (List.Mem.tail _ (List.Mem.tail _ (List.Mem.head _))) (VwL.refl _ _) | fail)); done) (Xj9 ts k _ _ _ sv hk hl))) | (apply XaF; (case hs => (intro _ _ h; cases h)); (case hx => rfl); (case hrun => (intro w; simp [wtb, AV.val, go_sem]; (try go_bits); rfl)))))); (case hT => ((try simp (disch := omega) only [wtn, pc, Tok.av, Xu3, Xu0, Xu1, Xu4, Xu8, Nat.reduceAdd, Nat.reduceMul, Nat.reduceSub, ↓reduceIte, Nat.reduceEqDiff]); rfl))) | (refine Xaj rfl ?_; ((first | (refine Xaq 11 rfl ?_; (first | (refine Xam 212 Tryz.f212 [_] _ _ _ rfl rfl Tryz.func212 (by decide) rfl (Xvc (l₁ := [_, _, _])) (VwL.refl _ _) (XdK _ ts k _ _ _ sv hsv hk hl hv hN'.out) ?_; rintro _ _ ⟨k1, e1, l1, c1, n1, rfl, rfl, q1, g1⟩) | (refine Xam 202 Tryz.f202 [_] _ _ _ rfl rfl Tryz.func202 (by decide) rfl (XuZ _) (VwL.refl _ _) (Xfz _ ts k1 _ _ _ sv hsv _ (by decide) ts[k] q1) ?_; rintro _ _ ⟨e2, l2, c2, rfl, rfl, hz, g2⟩) | (refine Xam 212 Tryz.f212 [_] _ _ _ rfl rfl Tryz.func212 (by decide) rfl (XuZ _) (VwL.refl _ _) (XdK _ ts k1 _ _ _ sv hsv q1 hl hv hN'.out) ?_; rintro _ _ ⟨k3, e3, l3, c3, n3, rfl, rfl, q3, g3⟩))) | (refine Xaq 14 rfl ?_; ((refine XaN _ _ rfl Xbp.out rfl (fun b => ?_)))) | (refine Xaq 15 rfl ?_; ((refine Xbt _ _ rfl (by first | rfl | fail) (fun b => ?_)))) | (refine Xaq 16 rfl ?_; ((refine Xau _ _ _ _ _ _ _ rfl rfl XaZ.out XaR.out (by first | rfl | fail) (by first | exact XuY rfl | fail) ?_)))); apply Xak; (case hT => ((try simp (disch := omega) only [wtn, pc, Tok.av, Xu3, Xu0, Xu1, Xu4, Xu8, Nat.reduceAdd, Nat.reduceMul, Nat.reduceSub, ↓reduceIte, Nat.reduceEqDiff]); rfl)); (case hH => ((try simp (disch := omega) only [wtn, pc, Tok.av, Xu3, Xu0, Xu1, Xu4, Xu8, Nat.reduceAdd, Nat.reduceMul, Nat.reduceSub, ↓reduceIte, Nat.reduceEqDiff]); rfl)))) | fail))
 all_goals refine Xaf _ _ (Xbl rfl (RV.cell 2 rfl rfl XaO.out (by simp) (by simp)) (XaK.mk' [_, _, _] [_] (Xvc (l₁ := [_, _, _]) (l₂ := [])).symm (XaE.refl _ _) (VwL.refl _ _))) ⟨k3, e3, l3, c3, _, _, rfl, rfl, q3, ?_⟩
 ·exact (XgH g1 (g2.of (by rw [Xbo hk]; exact if_pos h.2)) g3).any (fun he => hz (g3.ok he).1)
 ·by_cases he : e3 = 0
  ·have h1 := (g3.nx he).2
   have hn : ¬ (n1 < 1 ∨ 16 < n1) := by simp only at h1; omega
   rw [show wrap64 n1 = n1 from by simp only [wrap64]; omega]
   exact XgH (j := j) g1 ((Got.pure q1 ()).of (if_neg hn)) g3
  ·exact (XgH (n := n1) g1 (by
    by_cases h1 : e1 = 0
    ·exact (Got.pure q1 ()).of (if_neg (by omega))
    ·exact Got.bad q1 h1 _ _) g3).any he
def XjP : List (List UInt8) := [[114, 117, 110], [101, 110, 118], [110, 101, 101, 100, 115], [114, 101, 97, 100, 121], [114, 101, 115, 116, 97, 114, 116], [98, 97, 99, 107, 111, 102, 102], [98, 117, 114, 115, 116], [115, 116, 111, 112]]
set_option maxRecDepth 100000 in
set_option maxHeartbeats 8000000 in
theorem XrX (s : List UInt8) : Xa8 Tryz.prog 206 [] [.sq 8 [.x (.string ⟨#[114, 117, 110]⟩), .x (.string ⟨#[101, 110, 118]⟩), .x (.string ⟨#[110, 101, 101, 100, 115]⟩), .x (.string ⟨#[114, 101, 97, 100, 121]⟩), .x (.string ⟨#[114, 101, 115, 116, 97, 114, 116]⟩), .x (.string ⟨#[98, 97, 99, 107, 111, 102, 102]⟩), .x (.string ⟨#[98, 117, 114, 115, 116]⟩), .x (.string ⟨#[115, 116, 111, 112]⟩)], .x (.string (bs s))] (fun r H' => r = .x (.bool (decide (s ∈ XjP))) ∧ H' = []) := by
 have e : (([.x (.string ⟨#[114, 117, 110]⟩), .x (.string ⟨#[101, 110, 118]⟩), .x (.string ⟨#[110, 101, 101, 100, 115]⟩), .x (.string ⟨#[114, 101, 97, 100, 121]⟩), .x (.string ⟨#[114, 101, 115, 116, 97, 114, 116]⟩), .x (.string ⟨#[98, 97, 99, 107, 111, 102, 102]⟩), .x (.string ⟨#[98, 117, 114, 115, 116]⟩), .x (.string ⟨#[115, 116, 111, 112]⟩)] : List AV)) = sa XjP := by simp [sa, XjP, bs]
 rw [e]
 exact Xls XjP s (by simp [XjP])
set_option maxRecDepth 100000 in
set_option maxHeartbeats 8000000 in
theorem Xsi (s : List UInt8) : Xa8 Tryz.prog 205 [] [.x (.string (bs s))] (fun r H' => r = .x (.bool (decide (s ∈ XjP))) ∧ H' = []) := by
 refine XaG Tryz.func205 rfl ?_
 simp only [Tryz.ntmps205, Xu2, Xu5, Xu6, Xu7, Xva, Xu9, Nat.reduceAdd, Nat.reduceSub]
 (repeat' (first | with_reducible (first | refine Xah ?_ | refine Xac ?_ | refine Xat ?_ | refine Xae ?_ | refine Xaa ?_) | ((apply Xad rfl); (case h => ((first | (apply Xab 0 rfl; (first | exact Xar _ rfl | exact Xao _ rfl)) | (apply Xab 11 rfl; (exact Xbb 206 Tryz.f206 _ _ rfl rfl Tryz.func206 (by decide) rfl (by (repeat' (first | exact VwL.nil | (refine VwL.cons ?_ ?_) | exact Vw.refl _ | exact Vw.row (List.Mem.head _) (VwL.refl _ _) | fail)); done) (XrX s)))))); (case hT => ((try simp only [wtn]); rfl))) | (refine Xaj rfl ?_; (((refine Xaq 17 rfl ?_; ((refine XaB _ _ _ _ _ _ _ _ rfl XaQ.out (by first | rfl | fail) rfl (by decide) rfl (fun b => ?_))))); apply Xak; (case hT => ((try simp only [wtn]); rfl)); (case hH => ((try simp only [wtn]); rfl)))) | fail))
 refine Xaf _ _ (Xbl rfl (RV.tmp _) (XaK.mk' [_] [] (XuZ _) (XaE.refl _ _) (by first | exact VwL.refl _ _ | fail))) ?_
 exact ⟨rfl, rfl⟩
end Go.Proofs.YtdpobjakdplljaaGreatDoor
