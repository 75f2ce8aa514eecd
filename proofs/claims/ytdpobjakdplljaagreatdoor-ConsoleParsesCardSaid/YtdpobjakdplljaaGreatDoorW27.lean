import Derived.Test.YtdpobjakdplljaaGreatDoorW26
import Derived.Test.YtdpobjakdplljaaGreatDoorW8
/- The reference's parser, exact: an item. -/
set_option linter.unusedSimpArgs false
set_option linter.unusedVariables false
namespace Go.Proofs.YtdpobjakdplljaaGreatDoor
open Go.RowKit
structure JB (j : JF) (k : Nat) : Prop where
 env : j.env.length ≤ k
 needs : j.needs.length ≤ k
 ladder : j.ladder.length ≤ k
theorem JB.mono {j : JF} {k k' : Nat} (h : JB j k) (hk : k ≤ k') : JB j k' := ⟨Nat.le_trans h.1 hk, Nat.le_trans h.2 hk, Nat.le_trans h.3 hk⟩
theorem XsV (b : Nat) (ts : List Tok) (k : Nat) (e l c : Int) (sv : AV) (hsv : sv.one = true) (hk : k < ts.length) (hl : ts.length ≤ 1000000) (hv : VT ts) :
  Xa8 Tryz.prog 210 [.box b (pc ts k e l c sv)] [.x (.pointer (some ⟨b, 0, none⟩))] (fun r H' => ∃ k1 e1 l1 c1, ∃ ns : List (List UInt8), r = .sq ns.length (sa ns) ∧ H' = [.box b (pc ts k1 e1 l1 c1 sv)] ∧ k1 < ts.length ∧ Got ts ⟨k, e, l, c⟩ (XbV (Xdc ts) 1 ts k []) ⟨k1, e1, l1, c1⟩ ns ∧ ns.length ≤ k1) :=
 (Xr2 b ts ⟨k, e, l, c⟩ sv hsv hk hl hv).mono fun r H' ⟨⟨k1, e1, l1, c1⟩, ns, h1, h2, h3, h4⟩ => ⟨k1, e1, l1, c1, ns, h1, h2, h3.1, h3, h4⟩
theorem Xot (b : Nat) (ts : List Tok) (k : Nat) (e l c : Int) (sv : AV) (hsv : sv.one = true) (hk : k < ts.length) (hl : ts.length ≤ 1000000) (hv : VT ts) :
  Xa8 Tryz.prog 211 [.box b (pc ts k e l c sv)] [.x (.pointer (some ⟨b, 0, none⟩))] (fun r H' => ∃ k1 e1 l1 c1 n, r = .x (.int .i64 n) ∧ H' = [.box b (pc ts k1 e1 l1 c1 sv)] ∧ k1 < ts.length ∧ Got ts ⟨k, e, l, c⟩ ((Xim ts k).map fun n => (n, k + 1)) ⟨k1, e1, l1, c1⟩ n) :=
 (Xo0 b ts ⟨k, e, l, c⟩ sv hsv hk hl hv).mono fun r H' ⟨⟨k1, e1, l1, c1⟩, n, h1, h2, h3⟩ => ⟨k1, e1, l1, c1, n, h1, h2, h3.1, h3⟩
section
variable (ts : List Tok) (k : Nat) (j : JF)
theorem XoB : XbX ts k XkN j = ((Xbi ts k 3 512).map fun t => (t, k + 1)).map fun p => ({ j with run := p.1.text }, p.2) := by
 unfold XbX
 rw [if_pos rfl]
 cases Xbi ts k 3 512 <;> rfl
theorem XmS : XbX ts k Xif j = (Xio ts k j.env).map fun v => ({ j with env := j.env ++ [v] }, k + 3) := by
 unfold XbX
 rw [if_neg (by decide), if_pos rfl]
theorem XjK : XbX ts k XgD j = (XbV (Xdc ts) 1 ts k []).map fun p => ({ j with needs := p.1 }, p.2) := by
 unfold XbX
 rw [if_neg (by decide), if_neg (by decide), if_pos rfl]
theorem XjM : XbX ts k XeZ j = ((Xbi ts k 4 128).map fun t => (t, k + 1)).map fun p => ({ j with hasr := true, ready := p.1.text }, p.2) := by
 unfold XbX
 rw [if_neg (by decide), if_neg (by decide), if_neg (by decide), if_pos rfl]
 cases Xbi ts k 4 128 <;> rfl
theorem XhH : XbX ts k XcO j = ((Xim ts k).map fun n => (n, k + 1)).map fun p => ({ j with restart := p.1 }, p.2) := by
 unfold XbX
 rw [if_neg (by decide), if_neg (by decide), if_neg (by decide), if_neg (by decide), if_pos rfl]
 cases Xim ts k <;> rfl
theorem Xh4 : XbX ts k Xcx j = ((Xc6 ts k).map fun n => (n, k + 1)) >>= fun p => ((Xc6 ts p.2).map fun n => (n, p.2 + 1)) >>= fun q => ((Xc6 ts q.2).map fun n => (n, q.2 + 1)).map fun r => ({ j with base := p.1, cap := q.1, stable := r.1 }, r.2) := by
 unfold XbX
 rw [if_neg (by decide), if_neg (by decide), if_neg (by decide), if_neg (by decide), if_neg (by decide), if_pos rfl]
 cases h1 : Xc6 ts k with
 | error f => rfl
 | ok a =>
  simp only [Except.map, bind, Except.bind]
  cases h2 : Xc6 ts (k + 1) with
  | error f => rfl
  | ok b =>
   simp only []
   cases h3 : Xc6 ts (k + 2) <;> simp [h3]
theorem Xka : XbX ts k Xew j = Xi2 ts k j := by
 unfold XbX
 rw [if_neg (by decide), if_neg (by decide), if_neg (by decide), if_neg (by decide), if_neg (by decide), if_neg (by decide), if_pos rfl]
 rfl
theorem XlJ : XbX ts k Xge j = (XbV (Xdd ts) 2 ts k []).map fun p => ({ j with ladder := p.1 }, p.2) := by
 unfold XbX
 rw [if_neg (by decide), if_neg (by decide), if_neg (by decide), if_neg (by decide), if_neg (by decide), if_neg (by decide), if_neg (by decide)]
end
theorem Xkg {ts : List Tok} {s s1 s2 s3 : PS} {j : JF} {a b c : Int} (g1 : Got ts s ((Xc6 ts s.k).map fun n => (n, s.k + 1)) s1 a) (g2 : Got ts s1 ((Xc6 ts s1.k).map fun n => (n, s1.k + 1)) s2 b) (g3 : Got ts s2 ((Xc6 ts s2.k).map fun n => (n, s2.k + 1)) s3 c) : Got ts s (XbX ts s.k Xcx j) s3 { j with base := a, cap := b, stable := c } := by
 refine (Got.bind (y := fun a q => ((Xc6 ts q).map fun n => (n, q + 1)) >>= fun q => ((Xc6 ts q.2).map fun n => (n, q.2 + 1)).map fun r => ({ j with base := a, cap := q.1, stable := r.1 }, r.2)) g1 ?_).of (Xh4 ts s.k j)
 exact Got.bind (y := fun b q => ((Xc6 ts q).map fun n => (n, q + 1)).map fun r => ({ j with base := a, cap := b, stable := r.1 }, r.2)) g2 (g3.val fun c => { j with base := a, cap := b, stable := c })
set_option maxRecDepth 100000 in
set_option maxHeartbeats 8000000 in
theorem XtT (bp : Nat) (ts : List Tok) (k : Nat) (e l c : Int) (sv : AV) (hsv : sv.one = true) (j : JF) (word : List UInt8) (hk : k < ts.length) (hl : ts.length ≤ 1000000) (hv : VT ts) (hN : XeM ts) (hj : JB j k) (hw : word ∈ items) :
  Xa8 Tryz.prog 207 [.box bp (pc ts k e l c sv)] [.x (.pointer (some ⟨bp, 0, none⟩)), .agg j.cells, .x (.string (bs word))] (fun r H' => ∃ k1 e1 l1 c1 j', r = .agg (JF.cells j') ∧ H' = [.box bp (pc ts k1 e1 l1 c1 sv)] ∧ k1 < ts.length ∧ Got ts ⟨k, e, l, c⟩ (XbX ts k word j) ⟨k1, e1, l1, c1⟩ j' ∧ JB j' k1) := by
 have hN' := Lib.hid hN
 clear hN
 have hw' := Lib.hid hw
 clear hw
 obtain ⟨j1, j2, j3⟩ := hj
 unfold JF.cells
 refine XaG Tryz.func207 rfl ?_
 simp only [Tryz.ntmps207, Xu2, Xu5, Xu6, Xu7, Xva, Xu9, Nat.reduceAdd, Nat.reduceSub]
 (repeat' (first | with_reducible (first | refine Xah ?_ | refine Xac ?_ | refine Xan ?_ | refine Xat ?_ | refine Xax ?_ | refine Xae ?_ | refine Xaa ?_ | refine Xaw ?_ | refine Xag ?_ | refine Xav ?_) | (refine Xai _ rfl (fun h => ?_) (fun h => ?_) <;> ((try (simp only [whn] at h)); skip)) | ((apply Xad rfl); (case h => ((first | (apply Xab 0 rfl; (first | exact Xar _ rfl | exact Xao _ rfl)) | (apply Xab 5 rfl; (exact Xal _ _ _ _ _ _ rfl rfl Xa6.out)) | (apply Xab 6 rfl; (exact XaA _ _ _ _ _ _ _ _ rfl rfl XaZ.out XaO.out (by first | exact XuY rfl | fail) (by first | exact XuY rfl | fail))) | (apply Xab 12 rfl; (exact Xm6 _ _ _ _ _ _ _ rfl rfl HFv.out (by first | (simp; done) | fail) (by first | (simp; done) | fail))) | (apply XaF; (case hs => (intro _ _ h; cases h)); (case hx => rfl); (case hrun => (intro w; simp [wtb, AV.val, go_sem]; skip; rfl)))))); (case hT => ((try simp (disch := omega) only [wtn, pc, Tok.av, JF.cells, Xu3, Xu0, Xu1, Xu4, Xu8, Nat.reduceAdd, Nat.reduceMul, Nat.reduceSub, ↓reduceIte, Nat.reduceEqDiff]); rfl))) | (refine Xaj rfl ?_; ((first | (refine Xaq 11 rfl ?_; (first | (refine Xam 203 Tryz.f203 [_] _ _ _ rfl rfl Tryz.func203 (by decide) rfl (Xvc (l₁ := [_, _])) (VwL.refl _ _) (Xho _ ts k e _ _ sv hsv 3 512 hk hl hv (by decide)) ?_; rintro _ _ ⟨k1, e1, l1, c1, rfl, rfl, q1, g1⟩) | (refine Xam 203 Tryz.f203 [_] _ _ _ rfl rfl Tryz.func203 (by decide) rfl (Xvc (l₁ := [_, _])) (VwL.refl _ _) (Xho _ ts k e _ _ sv hsv 4 128 hk hl hv (by decide)) ?_; rintro _ _ ⟨k1, e1, l1, c1, rfl, rfl, q1, g1⟩) | (refine Xam 209 Tryz.f209 [_] _ _ _ rfl rfl Tryz.func209 (by decide) rfl (Xvc (l₁ := [_, _])) (VwL.refl _ _) (Xl1 _ ts k e _ _ sv hsv j hk hl hv j1) ?_; rintro _ _ ⟨k1, e1, l1, c1, en, rfl, rfl, q1, g1, s1⟩) | (refine Xam 210 Tryz.f210 [_] _ _ _ rfl rfl Tryz.func210 (by decide) rfl (Xvc (l₁ := [_, _])) (VwL.refl _ _) (XsV _ ts k e _ _ sv hsv hk hl hv) ?_; rintro _ _ ⟨k1, e1, l1, c1, ns, rfl, rfl, q1, g1, s1⟩) | (refine Xam 211 Tryz.f211 [_] _ _ _ rfl rfl Tryz.func211 (by decide) rfl (Xvc (l₁ := [_, _])) (VwL.refl _ _) (Xot _ ts k e _ _ sv hsv hk hl hv) ?_; rintro _ _ ⟨k1, e1, l1, c1, rs, rfl, rfl, q1, g1⟩) | (refine Xam 212 Tryz.f212 [_] _ _ _ rfl rfl Tryz.func212 (by decide) rfl (Xvc (l₁ := [_, _])) (VwL.refl _ _) (XdK _ ts k e _ _ sv hsv hk hl hv hN'.out) ?_; rintro _ _ ⟨k1, e1, l1, c1, n1, rfl, rfl, q1, g1⟩) | (refine Xam 212 Tryz.f212 [_] _ _ _ rfl rfl Tryz.func212 (by decide) rfl (XuZ _) (VwL.refl _ _) (XdK _ ts k1 _ _ _ sv hsv q1 hl hv hN'.out) ?_; rintro _ _ ⟨k2, e2, l2, c2, n2, rfl, rfl, q2, g2⟩) | (refine Xam 212 Tryz.f212 [_] _ _ _ rfl rfl Tryz.func212 (by decide) rfl (XuZ _) (VwL.refl _ _) (XdK _ ts k2 _ _ _ sv hsv q2 hl hv hN'.out) ?_; rintro _ _ ⟨k3, e3, l3, c3, n3, rfl, rfl, q3, g3⟩) | (refine Xam 213 Tryz.f213 [_] _ _ _ rfl rfl Tryz.func213 (by decide) rfl (Xvc (l₁ := [_, _])) (VwL.refl _ _) (Xr0 _ ts k e _ _ sv hsv j hk hl hv hN'.out) ?_; rintro _ _ ⟨k1, e1, l1, c1, n1, n2, rfl, rfl, q1, g1⟩) | (refine Xam 214 Tryz.f214 [_] _ _ _ rfl rfl Tryz.func214 (by decide) rfl (Xvc (l₁ := [_, _])) (VwL.refl _ _) (Xqh _ ts k e _ _ sv hsv hk hl hv hN'.out) ?_; rintro _ _ ⟨k1, e1, l1, c1, rs, rfl, rfl, q1, g1, s1⟩))) | (refine Xaq 14 rfl ?_; ((refine XaN _ _ rfl Xbp.out rfl (fun b => ?_)))) | (refine Xaq 15 rfl ?_; ((refine Xbt _ _ rfl (by first | rfl | fail) (fun b => ?_)))) | (refine Xaq 16 rfl ?_; ((refine Xau _ _ _ _ _ _ _ rfl rfl XaZ.out XaR.out (by first | rfl | fail) (by first | exact XuY rfl | fail) ?_)))); apply Xak; (case hT => ((try simp (disch := omega) only [wtn, pc, Tok.av, JF.cells, Xu3, Xu0, Xu1, Xu4, Xu8, Nat.reduceAdd, Nat.reduceMul, Nat.reduceSub, ↓reduceIte, Nat.reduceEqDiff]); rfl)); (case hH => ((try simp (disch := omega) only [wtn, pc, Tok.av, JF.cells, Xu3, Xu0, Xu1, Xu4, Xu8, Nat.reduceAdd, Nat.reduceMul, Nat.reduceSub, ↓reduceIte, Nat.reduceEqDiff]); rfl)))) | fail))
 all_goals first
  | (subst h; have hq := g1.2.1; simp only at hq; refine Xaf _ _ (Xbl rfl (RV.cell 1 rfl rfl XaO.out (by simp; done) (by simp; done)) (XaK.mk' [_, _] [.box _ (pc ts k1 e1 l1 c1 sv)] (Xvc (l₁ := [_, _]) (l₂ := [])).symm (XaE.refl _ _) (VwL.refl _ _))) ⟨k1, e1, l1, c1, { j with run := ts[k].text }, rfl, rfl, q1, (g1.val fun t => { j with run := t.text }).of (XoB ts k j), ⟨by (try simp only); omega, by (try simp only); omega, by (try simp only); omega⟩⟩; done)
  | (subst h; have hq := g1.2.1; simp only at hq; refine Xaf _ _ (Xbl rfl (RV.cell 1 rfl rfl XaO.out (by simp; done) (by simp; done)) (XaK.mk' [_, _] [.box _ (pc ts k1 e1 l1 c1 sv)] (Xvc (l₁ := [_, _]) (l₂ := [])).symm (XaE.refl _ _) (VwL.refl _ _))) ⟨k1, e1, l1, c1, { j with env := en }, rfl, rfl, q1, g1.of (XmS ts k j), ⟨by (try simp only); omega, by (try simp only); omega, by (try simp only); omega⟩⟩; done)
  | (subst h; have hq := g1.2.1; simp only at hq; refine Xaf _ _ (Xbl rfl (RV.cell 1 rfl rfl XaO.out (by simp; done) (by simp; done)) (XaK.mk' [_, _] [.box _ (pc ts k1 e1 l1 c1 sv)] (Xvc (l₁ := [_, _]) (l₂ := [])).symm (XaE.refl _ _) (VwL.refl _ _))) ⟨k1, e1, l1, c1, { j with needs := ns }, rfl, rfl, q1, (g1.val fun t => { j with needs := t }).of (XjK ts k j), ⟨by (try simp only); omega, by (try simp only); omega, by (try simp only); omega⟩⟩; done)
  | (subst h; have hq := g1.2.1; simp only at hq; refine Xaf _ _ (Xbl rfl (RV.cell 1 rfl rfl XaO.out (by simp; done) (by simp; done)) (XaK.mk' [_, _] [.box _ (pc ts k1 e1 l1 c1 sv)] (Xvc (l₁ := [_, _]) (l₂ := [])).symm (XaE.refl _ _) (VwL.refl _ _))) ⟨k1, e1, l1, c1, { j with hasr := true, ready := ts[k].text }, rfl, rfl, q1, (g1.val fun t => { j with hasr := true, ready := t.text }).of (XjM ts k j), ⟨by (try simp only); omega, by (try simp only); omega, by (try simp only); omega⟩⟩; done)
  | (subst h; have hq := g1.2.1; simp only at hq; refine Xaf _ _ (Xbl rfl (RV.cell 1 rfl rfl XaO.out (by simp; done) (by simp; done)) (XaK.mk' [_, _] [.box _ (pc ts k1 e1 l1 c1 sv)] (Xvc (l₁ := [_, _]) (l₂ := [])).symm (XaE.refl _ _) (VwL.refl _ _))) ⟨k1, e1, l1, c1, { j with restart := rs }, rfl, rfl, q1, (g1.val fun t => { j with restart := t }).of (XhH ts k j), ⟨by (try simp only); omega, by (try simp only); omega, by (try simp only); omega⟩⟩; done)
  | (subst h; have hq := g1.2.1; have hq2 := g2.2.1; have hq3 := g3.2.1; simp only at hq hq2 hq3; refine Xaf _ _ (Xbl rfl (RV.cell 1 rfl rfl XaO.out (by simp; done) (by simp; done)) (XaK.mk' [_, _] [.box _ (pc ts k3 e3 l3 c3 sv)] (Xvc (l₁ := [_, _]) (l₂ := [])).symm (XaE.refl _ _) (VwL.refl _ _))) ⟨k3, e3, l3, c3, { j with base := n1, cap := n2, stable := n3 }, rfl, rfl, q3, Xkg g1 g2 g3, ⟨by (try simp only); omega, by (try simp only); omega, by (try simp only); omega⟩⟩; done)
  | (subst h; have hq := g1.2.1; simp only at hq; refine Xaf _ _ (Xbl rfl (RV.cell 1 rfl rfl XaO.out (by simp; done) (by simp; done)) (XaK.mk' [_, _] [.box _ (pc ts k1 e1 l1 c1 sv)] (Xvc (l₁ := [_, _]) (l₂ := [])).symm (XaE.refl _ _) (VwL.refl _ _))) ⟨k1, e1, l1, c1, { j with burst := n1, window := n2 }, rfl, rfl, q1, g1.of (Xka ts k j), ⟨by (try simp only); omega, by (try simp only); omega, by (try simp only); omega⟩⟩; done)
  | (subst h; have hq := g1.2.1; simp only at hq; refine Xaf _ _ (Xbl rfl (RV.cell 1 rfl rfl XaO.out (by simp; done) (by simp; done)) (XaK.mk' [_, _] [.box _ (pc ts k1 e1 l1 c1 sv)] (Xvc (l₁ := [_, _]) (l₂ := [])).symm (XaE.refl _ _) (VwL.refl _ _))) ⟨k1, e1, l1, c1, { j with ladder := rs }, rfl, rfl, q1, (g1.val fun t => { j with ladder := t }).of (XlJ ts k j), ⟨by (try simp only); omega, by (try simp only); omega, by (try simp only); omega⟩⟩; done)
  | (exfalso; have hw := hw'.out; simp [items, XkN, Xif, XgD, XeZ, XcO, Xcx, Xew, Xge, *] at hw; done)
  | trace_state
end Go.Proofs.YtdpobjakdplljaaGreatDoor
