import Derived.Test.YtkhhlmonhapmaaaGreatDoorW16
import Derived.Test.YtkhhlmonhapmaaaGreatDoorW7
/- The reference's parser, exact: an item. -/
set_option linter.unusedSimpArgs false
set_option linter.unusedVariables false
namespace Go.Proofs.YtkhhlmonhapmaaaGreatDoor
open Go.RowKit
structure JB (j : JF) (k : Nat) : Prop where
  env : j.env.length ≤ k
  needs : j.needs.length ≤ k
  ladder : j.ladder.length ≤ k
theorem JB.mono {j : JF} {k k' : Nat} (h : JB j k) (hk : k ≤ k') : JB j k' := ⟨Nat.le_trans h.1 hk, Nat.le_trans h.2 hk, Nat.le_trans h.3 hk⟩
theorem needs_h (b : Nat) (ts : List Tok) (k : Nat) (e l c : Int) (sv : AV) (hsv : sv.one = true) (hk : k < ts.length) (hl : ts.length ≤ 1000000) (hv : VT ts) :
    Spec Tryz.prog 98 [.box b (pc ts k e l c sv)] [.x (.pointer (some ⟨b, 0, none⟩))] (fun r H' => ∃ k1 e1 l1 c1, ∃ ns : List (List UInt8), r = .sq ns.length (sa ns) ∧ H' = [.box b (pc ts k1 e1 l1 c1 sv)] ∧ k1 < ts.length ∧ Got ts ⟨k, e, l, c⟩ (gList (gNeed ts) 1 ts k []) ⟨k1, e1, l1, c1⟩ ns ∧ ns.length ≤ k1) :=
  (needs_g b ts ⟨k, e, l, c⟩ sv hsv hk hl hv).mono fun r H' ⟨⟨k1, e1, l1, c1⟩, ns, h1, h2, h3, h4⟩ => ⟨k1, e1, l1, c1, ns, h1, h2, h3.1, h3, h4⟩
theorem restart_h (b : Nat) (ts : List Tok) (k : Nat) (e l c : Int) (sv : AV) (hsv : sv.one = true) (hk : k < ts.length) (hl : ts.length ≤ 1000000) (hv : VT ts) :
    Spec Tryz.prog 99 [.box b (pc ts k e l c sv)] [.x (.pointer (some ⟨b, 0, none⟩))] (fun r H' => ∃ k1 e1 l1 c1 n, r = .x (.int .i64 n) ∧ H' = [.box b (pc ts k1 e1 l1 c1 sv)] ∧ k1 < ts.length ∧ Got ts ⟨k, e, l, c⟩ ((gPol ts k).map fun n => (n, k + 1)) ⟨k1, e1, l1, c1⟩ n) :=
  (restart_g b ts ⟨k, e, l, c⟩ sv hsv hk hl hv).mono fun r H' ⟨⟨k1, e1, l1, c1⟩, n, h1, h2, h3⟩ => ⟨k1, e1, l1, c1, n, h1, h2, h3.1, h3⟩
section
variable (ts : List Tok) (k : Nat) (j : JF)
theorem gItem_run : gItem ts k wRun j = ((gTake ts k 3 512).map fun t => (t, k + 1)).map fun p => ({ j with run := p.1.text }, p.2) := by
  unfold gItem
  rw [if_pos rfl]
  cases gTake ts k 3 512 <;> rfl
theorem gItem_env : gItem ts k wEnv j = (gVar ts k j.env).map fun v => ({ j with env := j.env ++ [v] }, k + 3) := by
  unfold gItem
  rw [if_neg (by decide), if_pos rfl]
theorem gItem_needs : gItem ts k wNeeds j = (gList (gNeed ts) 1 ts k []).map fun p => ({ j with needs := p.1 }, p.2) := by
  unfold gItem
  rw [if_neg (by decide), if_neg (by decide), if_pos rfl]
theorem gItem_ready : gItem ts k wReady j = ((gTake ts k 4 128).map fun t => (t, k + 1)).map fun p => ({ j with hasr := true, ready := p.1.text }, p.2) := by
  unfold gItem
  rw [if_neg (by decide), if_neg (by decide), if_neg (by decide), if_pos rfl]
  cases gTake ts k 4 128 <;> rfl
theorem gItem_restart : gItem ts k wRestart j = ((gPol ts k).map fun n => (n, k + 1)).map fun p => ({ j with restart := p.1 }, p.2) := by
  unfold gItem
  rw [if_neg (by decide), if_neg (by decide), if_neg (by decide), if_neg (by decide), if_pos rfl]
  cases gPol ts k <;> rfl
theorem gItem_backoff : gItem ts k wBackoff j = ((gNum ts k).map fun n => (n, k + 1)) >>= fun p => ((gNum ts p.2).map fun n => (n, p.2 + 1)) >>= fun q => ((gNum ts q.2).map fun n => (n, q.2 + 1)).map fun r => ({ j with base := p.1, cap := q.1, stable := r.1 }, r.2) := by
  unfold gItem
  rw [if_neg (by decide), if_neg (by decide), if_neg (by decide), if_neg (by decide), if_neg (by decide), if_pos rfl]
  cases h1 : gNum ts k with
  | error f => rfl
  | ok a =>
    simp only [Except.map, bind, Except.bind]
    cases h2 : gNum ts (k + 1) with
    | error f => rfl
    | ok b =>
      simp only []
      cases h3 : gNum ts (k + 2) <;> simp [h3]
theorem gItem_burst : gItem ts k wBurst j = gBurst ts k j := by
  unfold gItem
  rw [if_neg (by decide), if_neg (by decide), if_neg (by decide), if_neg (by decide), if_neg (by decide), if_neg (by decide), if_pos rfl]
  rfl
theorem gItem_stop : gItem ts k wStop j = (gList (gRung ts) 2 ts k []).map fun p => ({ j with ladder := p.1 }, p.2) := by
  unfold gItem
  rw [if_neg (by decide), if_neg (by decide), if_neg (by decide), if_neg (by decide), if_neg (by decide), if_neg (by decide), if_neg (by decide)]
end
theorem backoff_got {ts : List Tok} {s s1 s2 s3 : PS} {j : JF} {a b c : Int} (g1 : Got ts s ((gNum ts s.k).map fun n => (n, s.k + 1)) s1 a) (g2 : Got ts s1 ((gNum ts s1.k).map fun n => (n, s1.k + 1)) s2 b) (g3 : Got ts s2 ((gNum ts s2.k).map fun n => (n, s2.k + 1)) s3 c) : Got ts s (gItem ts s.k wBackoff j) s3 { j with base := a, cap := b, stable := c } := by
  refine (Got.bind (y := fun a q => ((gNum ts q).map fun n => (n, q + 1)) >>= fun q => ((gNum ts q.2).map fun n => (n, q.2 + 1)).map fun r => ({ j with base := a, cap := q.1, stable := r.1 }, r.2)) g1 ?_).of (gItem_backoff ts s.k j)
  exact Got.bind (y := fun b q => ((gNum ts q).map fun n => (n, q + 1)).map fun r => ({ j with base := a, cap := b, stable := r.1 }, r.2)) g2 (g3.val fun c => { j with base := a, cap := b, stable := c })
set_option maxRecDepth 100000 in
set_option maxHeartbeats 8000000 in
theorem item_g (bp : Nat) (ts : List Tok) (k : Nat) (e l c : Int) (sv : AV) (hsv : sv.one = true) (j : JF) (word : List UInt8) (hk : k < ts.length) (hl : ts.length ≤ 1000000) (hv : VT ts) (hN : NumTok ts) (hj : JB j k) (hw : word ∈ items) :
    Spec Tryz.prog 66 [.box bp (pc ts k e l c sv)] [.x (.pointer (some ⟨bp, 0, none⟩)), .agg j.cells, .x (.string (bs word))] (fun r H' => ∃ k1 e1 l1 c1 j', r = .agg (JF.cells j') ∧ H' = [.box bp (pc ts k1 e1 l1 c1 sv)] ∧ k1 < ts.length ∧ Got ts ⟨k, e, l, c⟩ (gItem ts k word j) ⟨k1, e1, l1, c1⟩ j' ∧ JB j' k1) := by
  have hN' := Lib.hid hN
  clear hN
  have hw' := Lib.hid hw
  clear hw
  obtain ⟨j1, j2, j3⟩ := hj
  unfold JF.cells
  refine Spec_of Tryz.func66 rfl ?_
  simp only [Tryz.ntmps66, List.length_cons, List.length_nil, List.replicate_succ, List.replicate_zero, List.cons_append, List.nil_append, Nat.reduceAdd, Nat.reduceSub]
  (repeat' (first | with_reducible (first | refine awp_seq ?_ | refine awp_region ?_ | refine awp_block ?_ | refine awp_ret ?_ | refine awp_skip ?_ | refine awpL_nil ?_ | refine thenA_normal ?_ | refine thenA_ret ?_ | refine inBlockA_normal ?_ | refine inBlockA_ret ?_) | (refine awp_cond _ rfl (fun h => ?_) (fun h => ?_) <;> ((try (simp only [whn] at h)); skip)) | ((apply awpL_evl2 rfl); (case h => ((first | (apply Evl_k 0 rfl; (first | exact Evl_mv _ rfl | exact Evl_as _ rfl)) | (apply Evl_k 5 rfl; (exact Evl_field_x _ _ _ _ _ _ rfl rfl HFld.out)) | (apply Evl_k 6 rfl; (exact Evl_load _ _ _ _ _ _ _ _ rfl rfl FBox.out HAgg.out (by first | exact Nat.le_of_ble_eq_true rfl | fail) (by first | exact Nat.le_of_ble_eq_true rfl | fail))) | (apply Evl_k 12 rfl; (exact Evl_fvx _ _ _ _ _ _ _ rfl rfl HFv.out (by first | (simp; done) | fail) (by first | (simp; done) | fail))) | (apply Evl_x; (case hs => (intro _ _ h; cases h)); (case hx => rfl); (case hrun => (intro w; simp [wtb, AV.val, go_sem]; skip; rfl)))))); (case hT => ((try simp (disch := omega) only [wtn, pc, Tok.av, JF.cells, List.append_eq, List.foldl_cons, List.foldl_nil, List.map_cons, List.map_nil, Nat.reduceAdd, Nat.reduceMul, Nat.reduceSub, ↓reduceIte, Nat.reduceEqDiff]); rfl))) | (refine awpL_cons rfl ?_; ((first | (refine Stp_k 11 rfl ?_; (first | (refine Stp_call 62 Tryz.f62 [_] _ _ _ rfl rfl Tryz.func62 (by decide) rfl (List.perm_middle (l₁ := [_, _])) (VwL.refl _ _) (take_h _ ts k e _ _ sv hsv 3 512 hk hl hv (by decide)) ?_; rintro _ _ ⟨k1, e1, l1, c1, rfl, rfl, q1, g1⟩) | (refine Stp_call 62 Tryz.f62 [_] _ _ _ rfl rfl Tryz.func62 (by decide) rfl (List.perm_middle (l₁ := [_, _])) (VwL.refl _ _) (take_h _ ts k e _ _ sv hsv 4 128 hk hl hv (by decide)) ?_; rintro _ _ ⟨k1, e1, l1, c1, rfl, rfl, q1, g1⟩) | (refine Stp_call 97 Tryz.f97 [_] _ _ _ rfl rfl Tryz.func97 (by decide) rfl (List.perm_middle (l₁ := [_, _])) (VwL.refl _ _) (variable_g _ ts k e _ _ sv hsv j hk hl hv j1) ?_; rintro _ _ ⟨k1, e1, l1, c1, en, rfl, rfl, q1, g1, s1⟩) | (refine Stp_call 98 Tryz.f98 [_] _ _ _ rfl rfl Tryz.func98 (by decide) rfl (List.perm_middle (l₁ := [_, _])) (VwL.refl _ _) (needs_h _ ts k e _ _ sv hsv hk hl hv) ?_; rintro _ _ ⟨k1, e1, l1, c1, ns, rfl, rfl, q1, g1, s1⟩) | (refine Stp_call 99 Tryz.f99 [_] _ _ _ rfl rfl Tryz.func99 (by decide) rfl (List.perm_middle (l₁ := [_, _])) (VwL.refl _ _) (restart_h _ ts k e _ _ sv hsv hk hl hv) ?_; rintro _ _ ⟨k1, e1, l1, c1, rs, rfl, rfl, q1, g1⟩) | (refine Stp_call 100 Tryz.f100 [_] _ _ _ rfl rfl Tryz.func100 (by decide) rfl (List.perm_middle (l₁ := [_, _])) (VwL.refl _ _) (number_h _ ts k e _ _ sv hsv hk hl hv hN'.out) ?_; rintro _ _ ⟨k1, e1, l1, c1, n1, rfl, rfl, q1, g1⟩) | (refine Stp_call 100 Tryz.f100 [_] _ _ _ rfl rfl Tryz.func100 (by decide) rfl (List.Perm.refl _) (VwL.refl _ _) (number_h _ ts k1 _ _ _ sv hsv q1 hl hv hN'.out) ?_; rintro _ _ ⟨k2, e2, l2, c2, n2, rfl, rfl, q2, g2⟩) | (refine Stp_call 100 Tryz.f100 [_] _ _ _ rfl rfl Tryz.func100 (by decide) rfl (List.Perm.refl _) (VwL.refl _ _) (number_h _ ts k2 _ _ _ sv hsv q2 hl hv hN'.out) ?_; rintro _ _ ⟨k3, e3, l3, c3, n3, rfl, rfl, q3, g3⟩) | (refine Stp_call 101 Tryz.f101 [_] _ _ _ rfl rfl Tryz.func101 (by decide) rfl (List.perm_middle (l₁ := [_, _])) (VwL.refl _ _) (burst_g _ ts k e _ _ sv hsv j hk hl hv hN'.out) ?_; rintro _ _ ⟨k1, e1, l1, c1, n1, n2, rfl, rfl, q1, g1⟩) | (refine Stp_call 102 Tryz.f102 [_] _ _ _ rfl rfl Tryz.func102 (by decide) rfl (List.perm_middle (l₁ := [_, _])) (VwL.refl _ _) (ladder_g _ ts k e _ _ sv hsv hk hl hv hN'.out) ?_; rintro _ _ ⟨k1, e1, l1, c1, rs, rfl, rfl, q1, g1, s1⟩))) | (refine Stp_k 14 rfl ?_; ((refine Stp_alloc _ _ rfl HZero.out rfl (fun b => ?_)))) | (refine Stp_k 15 rfl ?_; ((refine Stp_box _ _ rfl (by first | rfl | fail) (fun b => ?_)))) | (refine Stp_k 16 rfl ?_; ((refine Stp_store _ _ _ _ _ _ _ rfl rfl FBox.out HSize.out (by first | rfl | fail) (by first | exact Nat.le_of_ble_eq_true rfl | fail) ?_)))); apply awpL_cong; (case hT => ((try simp (disch := omega) only [wtn, pc, Tok.av, JF.cells, List.append_eq, List.foldl_cons, List.foldl_nil, List.map_cons, List.map_nil, Nat.reduceAdd, Nat.reduceMul, Nat.reduceSub, ↓reduceIte, Nat.reduceEqDiff]); rfl)); (case hH => ((try simp (disch := omega) only [wtn, pc, Tok.av, JF.cells, List.append_eq, List.foldl_cons, List.foldl_nil, List.map_cons, List.map_nil, Nat.reduceAdd, Nat.reduceMul, Nat.reduceSub, ↓reduceIte, Nat.reduceEqDiff]); rfl)))) | fail))
  all_goals first
    | (subst h; have hq := g1.2.1; simp only at hq; refine endA_ret _ _ (Res1 rfl (RV.cell 1 rfl rfl HAgg.out (by simp; done) (by simp; done)) (Weak.mk' [_, _] [.box _ (pc ts k1 e1 l1 c1 sv)] (List.perm_middle (l₁ := [_, _]) (l₂ := [])).symm (VwHs.refl _ _) (VwL.refl _ _))) ⟨k1, e1, l1, c1, { j with run := ts[k].text }, rfl, rfl, q1, (g1.val fun t => { j with run := t.text }).of (gItem_run ts k j), ⟨by (try simp only); omega, by (try simp only); omega, by (try simp only); omega⟩⟩; done)
    | (subst h; have hq := g1.2.1; simp only at hq; refine endA_ret _ _ (Res1 rfl (RV.cell 1 rfl rfl HAgg.out (by simp; done) (by simp; done)) (Weak.mk' [_, _] [.box _ (pc ts k1 e1 l1 c1 sv)] (List.perm_middle (l₁ := [_, _]) (l₂ := [])).symm (VwHs.refl _ _) (VwL.refl _ _))) ⟨k1, e1, l1, c1, { j with env := en }, rfl, rfl, q1, g1.of (gItem_env ts k j), ⟨by (try simp only); omega, by (try simp only); omega, by (try simp only); omega⟩⟩; done)
    | (subst h; have hq := g1.2.1; simp only at hq; refine endA_ret _ _ (Res1 rfl (RV.cell 1 rfl rfl HAgg.out (by simp; done) (by simp; done)) (Weak.mk' [_, _] [.box _ (pc ts k1 e1 l1 c1 sv)] (List.perm_middle (l₁ := [_, _]) (l₂ := [])).symm (VwHs.refl _ _) (VwL.refl _ _))) ⟨k1, e1, l1, c1, { j with needs := ns }, rfl, rfl, q1, (g1.val fun t => { j with needs := t }).of (gItem_needs ts k j), ⟨by (try simp only); omega, by (try simp only); omega, by (try simp only); omega⟩⟩; done)
    | (subst h; have hq := g1.2.1; simp only at hq; refine endA_ret _ _ (Res1 rfl (RV.cell 1 rfl rfl HAgg.out (by simp; done) (by simp; done)) (Weak.mk' [_, _] [.box _ (pc ts k1 e1 l1 c1 sv)] (List.perm_middle (l₁ := [_, _]) (l₂ := [])).symm (VwHs.refl _ _) (VwL.refl _ _))) ⟨k1, e1, l1, c1, { j with hasr := true, ready := ts[k].text }, rfl, rfl, q1, (g1.val fun t => { j with hasr := true, ready := t.text }).of (gItem_ready ts k j), ⟨by (try simp only); omega, by (try simp only); omega, by (try simp only); omega⟩⟩; done)
    | (subst h; have hq := g1.2.1; simp only at hq; refine endA_ret _ _ (Res1 rfl (RV.cell 1 rfl rfl HAgg.out (by simp; done) (by simp; done)) (Weak.mk' [_, _] [.box _ (pc ts k1 e1 l1 c1 sv)] (List.perm_middle (l₁ := [_, _]) (l₂ := [])).symm (VwHs.refl _ _) (VwL.refl _ _))) ⟨k1, e1, l1, c1, { j with restart := rs }, rfl, rfl, q1, (g1.val fun t => { j with restart := t }).of (gItem_restart ts k j), ⟨by (try simp only); omega, by (try simp only); omega, by (try simp only); omega⟩⟩; done)
    | (subst h; have hq := g1.2.1; have hq2 := g2.2.1; have hq3 := g3.2.1; simp only at hq hq2 hq3; refine endA_ret _ _ (Res1 rfl (RV.cell 1 rfl rfl HAgg.out (by simp; done) (by simp; done)) (Weak.mk' [_, _] [.box _ (pc ts k3 e3 l3 c3 sv)] (List.perm_middle (l₁ := [_, _]) (l₂ := [])).symm (VwHs.refl _ _) (VwL.refl _ _))) ⟨k3, e3, l3, c3, { j with base := n1, cap := n2, stable := n3 }, rfl, rfl, q3, backoff_got g1 g2 g3, ⟨by (try simp only); omega, by (try simp only); omega, by (try simp only); omega⟩⟩; done)
    | (subst h; have hq := g1.2.1; simp only at hq; refine endA_ret _ _ (Res1 rfl (RV.cell 1 rfl rfl HAgg.out (by simp; done) (by simp; done)) (Weak.mk' [_, _] [.box _ (pc ts k1 e1 l1 c1 sv)] (List.perm_middle (l₁ := [_, _]) (l₂ := [])).symm (VwHs.refl _ _) (VwL.refl _ _))) ⟨k1, e1, l1, c1, { j with burst := n1, window := n2 }, rfl, rfl, q1, g1.of (gItem_burst ts k j), ⟨by (try simp only); omega, by (try simp only); omega, by (try simp only); omega⟩⟩; done)
    | (subst h; have hq := g1.2.1; simp only at hq; refine endA_ret _ _ (Res1 rfl (RV.cell 1 rfl rfl HAgg.out (by simp; done) (by simp; done)) (Weak.mk' [_, _] [.box _ (pc ts k1 e1 l1 c1 sv)] (List.perm_middle (l₁ := [_, _]) (l₂ := [])).symm (VwHs.refl _ _) (VwL.refl _ _))) ⟨k1, e1, l1, c1, { j with ladder := rs }, rfl, rfl, q1, (g1.val fun t => { j with ladder := t }).of (gItem_stop ts k j), ⟨by (try simp only); omega, by (try simp only); omega, by (try simp only); omega⟩⟩; done)
    | (exfalso; have hw := hw'.out; simp [items, wRun, wEnv, wNeeds, wReady, wRestart, wBackoff, wBurst, wStop, *] at hw; done)
    | trace_state
end Go.Proofs.YtkhhlmonhapmaaaGreatDoor
