import Derived.Test.YtkhhlmonhapmaaaGreatDoorW14
/- The reference's parser, exact: rungs, the burst limit. -/
set_option linter.unusedSimpArgs false
set_option linter.unusedVariables false
namespace Go.Proofs.YtkhhlmonhapmaaaGreatDoor
open Go.RowKit
theorem signal_g (s : List UInt8) : Spec Tryz.prog 23 [] [.x (.string (bs s))] (fun r H' => r = .x (.int .i64 (sigv s)) ∧ H' = []) := signal_s s
theorem take_h (b : Nat) (ts : List Tok) (k : Nat) (e l c : Int) (sv : AV) (hsv : sv.one = true) (kind : Int) (most : Nat) (hk : k < ts.length) (hl : ts.length ≤ 1000000) (hv : VT ts) (hkd : kind ≠ 6) :
    Spec Tryz.prog 62 [.box b (pc ts k e l c sv)] [.x (.pointer (some ⟨b, 0, none⟩)), .x (.int .i64 kind), .x (.int .i64 most)] (fun r H' => ∃ k1 e1 l1 c1, r = (ts[k]'hk).av ∧ H' = [.box b (pc ts k1 e1 l1 c1 sv)] ∧ k1 < ts.length ∧ Got ts ⟨k, e, l, c⟩ ((gTake ts k kind most).map fun t => (t, k + 1)) ⟨k1, e1, l1, c1⟩ ts[k]) := by
  have h := take_g b ts ⟨k, e, l, c⟩ sv hsv kind most hk hl hv hkd
  simp only [tkA_get hk] at h
  exact h.mono fun r H' ⟨⟨k1, e1, l1, c1⟩, h1, h2, h3⟩ => ⟨k1, e1, l1, c1, h1, h2, h3.1, h3⟩
theorem sign_h (b : Nat) (ts : List Tok) (k : Nat) (e l c : Int) (sv : AV) (hsv : sv.one = true) (t : List UInt8) (hk : k < ts.length) (hl : ts.length ≤ 1000000) (hv : VT ts) :
    Spec Tryz.prog 63 [.box b (pc ts k e l c sv)] [.x (.pointer (some ⟨b, 0, none⟩)), .x (.string (bs t))] (fun r H' => ∃ k1 e1 l1 c1, r = .x (.tuple #[]) ∧ H' = [.box b (pc ts k1 e1 l1 c1 sv)] ∧ k1 < ts.length ∧ Got ts ⟨k, e, l, c⟩ ((gSign ts k t).map fun u => (u, k + 1)) ⟨k1, e1, l1, c1⟩ ()) :=
  (sign_g b ts ⟨k, e, l, c⟩ sv hsv t hk hl hv).mono fun r H' ⟨⟨k1, e1, l1, c1⟩, h1, h2, h3⟩ => ⟨k1, e1, l1, c1, h1, h2, h3.1, h3⟩
theorem number_h (b : Nat) (ts : List Tok) (k : Nat) (e l c : Int) (sv : AV) (hsv : sv.one = true) (hk : k < ts.length) (hl : ts.length ≤ 1000000) (hv : VT ts) (hN : NumTok ts) :
    Spec Tryz.prog 100 [.box b (pc ts k e l c sv)] [.x (.pointer (some ⟨b, 0, none⟩))] (fun r H' => ∃ k1 e1 l1 c1 n, r = .x (.int .u64 n) ∧ H' = [.box b (pc ts k1 e1 l1 c1 sv)] ∧ k1 < ts.length ∧ Got ts ⟨k, e, l, c⟩ ((gNum ts k).map fun n => (n, k + 1)) ⟨k1, e1, l1, c1⟩ n) :=
  (number_g b ts ⟨k, e, l, c⟩ sv hsv hk hl hv hN).mono fun r H' ⟨⟨k1, e1, l1, c1⟩, n, h1, h2, h3⟩ => ⟨k1, e1, l1, c1, n, h1, h2, h3.1, h3⟩
theorem Got.nx {α : Type} {ts : List Tok} {s : PS} {k2 k1 : Nat} {e1 l1 c1 : Int} {x : Except Flt α} {v : α} (h : Got ts s (x.map fun a => (a, k2)) ⟨k1, e1, l1, c1⟩ v) (he : e1 = 0) : k1 = k2 ∧ s.e = 0 := ⟨Got.next (h.ok he).2.1, (h.ok he).1⟩
def rungT (out : List (Int × Int)) (t : Tok) : Except Flt Int := if 5 ≤ out.length then .error (flt 1 t) else if sigv t.text = 0 then .error (flt 4 t) else .ok (sigv t.text)
theorem gRung_as (ts : List Tok) (k : Nat) (out : List (Int × Int)) : (gRung ts k out).map (fun x => (x, k + 2)) = ((gTake ts k 1 8192).map fun t => (t, k + 1)) >>= fun p => ((rungT out p.1).map fun x => (x, p.2)) >>= fun q => ((gNum ts q.2).map fun n => (n, q.2 + 1)).map fun n => ((q.1, n.1), n.2) := by
  unfold gRung rungT
  cases gTake ts k 1 8192 with
  | error f => rfl
  | ok t =>
    simp only [Except.map, bind, Except.bind]
    by_cases h : 5 ≤ out.length
    · rw [if_pos h, if_pos h]
    · rw [if_neg h, if_neg h]
      by_cases h2 : sigv t.text = 0
      · rw [if_pos h2, if_pos h2]
      · rw [if_neg h2, if_neg h2]
        cases h3 : gNum ts (k + 1) <;> simp [h3]
theorem rung_list {ts : List Tok} {s s1 s2 s3 s4 : PS} {rs : List (Int × Int)} {t : Tok} {sg n : Int} {v : List (Int × Int)}
    (g1 : Got ts s ((gTake ts s.k 1 8192).map fun t => (t, s.k + 1)) s1 t) (g2 : Got ts s1 ((rungT rs t).map fun x => (x, s1.k)) s2 sg) (g3 : Got ts s2 ((gNum ts s2.k).map fun n => (n, s2.k + 1)) s3 n)
    (g4 : Got ts s3 (if s3.k < ts.length ∧ gIs ts s3.k [44] = true then gList (gRung ts) 2 ts (s3.k + 1) (rs ++ [(sg, n)]) else .ok (rs ++ [(sg, n)], s3.k)) s4 v) : Got ts s (gList (gRung ts) 2 ts s.k rs) s4 v := by
  refine (Got.bind (y := fun x q => if q < ts.length ∧ gIs ts q [44] = true then gList (gRung ts) 2 ts (q + 1) (rs ++ [x]) else .ok (rs ++ [x], q)) (a := (sg, n)) ?_ g4).of (gList_as _ _ _ _ _)
  refine (Got.bind (y := fun t q => ((rungT rs t).map fun x => (x, q)) >>= fun q => ((gNum ts q.2).map fun n => (n, q.2 + 1)).map fun n => ((q.1, n.1), n.2)) g1 ?_).of (gRung_as ts s.k rs)
  exact Got.bind (y := fun x q => ((gNum ts q).map fun n => (n, q + 1)).map fun n => ((x, n.1), n.2)) g2 (g3.val fun n => (sg, n))
set_option maxRecDepth 100000 in
set_option maxHeartbeats 8000000 in
theorem ladder_g (b : Nat) (ts : List Tok) (k : Nat) (e l c : Int) (sv : AV) (hsv : sv.one = true) (hk : k < ts.length) (hl : ts.length ≤ 1000000) (hv : VT ts) (hN : NumTok ts) :
    Spec Tryz.prog 102 [.box b (pc ts k e l c sv)] [.x (.pointer (some ⟨b, 0, none⟩))] (fun r H' => ∃ k1 e1 l1 c1, ∃ rs : List (Int × Int), r = .sq rs.length (ra rs) ∧ H' = [.box b (pc ts k1 e1 l1 c1 sv)] ∧ k1 < ts.length ∧ Got ts ⟨k, e, l, c⟩ (gList (gRung ts) 2 ts k []) ⟨k1, e1, l1, c1⟩ rs ∧ rs.length ≤ k1) := by
  have hN' := Lib.hid hN
  clear hN
  refine Spec_of Tryz.func102 rfl ?_
  simp only [Tryz.ntmps102, List.length_cons, List.length_nil, List.replicate_succ, List.replicate_zero, List.cons_append, List.nil_append, Nat.reduceAdd, Nat.reduceSub]
  (repeat' (first | with_reducible (first | refine awp_seq ?_ | refine awp_region ?_ | refine awp_block ?_ | refine awpL_nil ?_ | refine thenA_normal ?_) | ((apply awpL_evl2 rfl); (case h => (((apply Evl_k 0 rfl; (exact Evl_as _ rfl))))); (case hT => ((try simp only [wtn]); rfl))) | fail))
  refine awp_nilrow 53 2 ?_
  refine awp_loopS (S := Nat × Int × Int × Int × List (Int × Int) × Option Addr × Nat) (fun s => frm 42 [(0, .x (.pointer (some ⟨b, 0, none⟩))), (3, .x (.slice s.2.2.2.2.2.1 s.2.2.2.2.1.length s.2.2.2.2.2.2))])
    (fun s => [.box b (pc ts s.1 s.2.1 s.2.2.1 s.2.2.2.1 sv), .row s.2.2.2.2.2.1 s.2.2.2.2.1.length s.2.2.2.2.2.2 53 2 (ra s.2.2.2.2.1)]) (fun s => s.1 < ts.length ∧ s.2.2.2.2.1.length ≤ s.1 ∧ ∀ s' v, Got ts ⟨s.1, s.2.1, s.2.2.1, s.2.2.2.1⟩ (gList (gRung ts) 2 ts s.1 s.2.2.2.2.1) s' v → Got ts ⟨k, e, l, c⟩ (gList (gRung ts) 2 ts k []) s' v) (fun s => ts.length - s.1) (k, e, l, c, [], none, 0) ?a ⟨hk, Nat.zero_le _, fun _ _ h => h⟩ fun s hs => ?_
  case a => exact Weak.mk' [] [_, _] (List.Perm.swap _ _ _) (VwHs.refl _ _) (by (repeat' (first | exact VwL.nil | (refine VwL.cons ?_ ?_) | exact Vw.refl _ | exact Vw.top _ | fail)))
  obtain ⟨kk, ee, ll, cc, rs, ad, cap⟩ := s
  obtain ⟨g2, g4, g5⟩ := hs
  simp only at g2 g4 g5
  have g6 := Lib.hid g5
  clear g5
  have hv' := fun k => comma_lt hv (s := [44]) k
  simp only [frm, List.replicate_succ, List.replicate_zero, List.foldl_cons, List.foldl_nil, List.set_cons_zero, List.set_cons_succ]
  (repeat' (first | with_reducible (first | refine awp_seq ?_ | refine awp_region ?_ | refine awp_block ?_ | refine awp_ret ?_ | refine awp_skip ?_ | refine awpL_nil ?_ | refine thenA_normal ?_ | refine thenA_ret ?_ | refine inBlockA_normal ?_ | refine inBlockA_ret ?_) | (refine awp_cond _ rfl (fun h => ?_) (fun h => ?_) <;> ((try (simp only [whn] at h)); skip)) | ((apply awpL_evl2 rfl); (case h => ((first | (apply Evl_k 0 rfl; (first | exact Evl_mv _ rfl | exact Evl_as _ rfl)) | (apply Evl_k 4 rfl; (exact Evl_nil _ rfl (by first | exact .inl ⟨_, rfl⟩ | fail))) | (apply Evl_k 5 rfl; (exact Evl_field_x _ _ _ _ _ _ rfl rfl HFld.out)) | (apply Evl_k 6 rfl; (exact Evl_load _ _ _ _ _ _ _ _ rfl rfl FBox.out HAgg.out (by first | exact Nat.le_of_ble_eq_true rfl | fail) (by first | exact Nat.le_of_ble_eq_true rfl | fail))) | (apply Evl_k 10 rfl; (exact Evl_build _ _ _ _ _ rfl HPl.out (by first | rfl | fail) rfl)) | (apply Evl_k 11 rfl; (first | exact Evl_callL 38 Tryz.f38 _ _ rfl rfl Tryz.func38 (by decide) rfl (by (repeat' (first | exact VwL.nil | (refine VwL.cons ?_ ?_) | exact Vw.box (List.Mem.tail _ (List.Mem.head _)) (VwL.refl _ _) | fail)); done) (failed_s ts _ _ _ _ sv) | exact Evl_call 23 Tryz.f23 _ _ rfl rfl Tryz.func23 (by decide) rfl (VwL.refl _ _) (signal_g _) | exact Evl_callL 60 Tryz.f60 _ _ rfl rfl Tryz.func60 (by decide) rfl (by (repeat' (first | exact VwL.nil | (refine VwL.cons ?_ ?_) | exact Vw.refl _ | exact Vw.box (List.Mem.tail _ (List.Mem.head _)) (VwL.refl _ _) | fail)); done) (is_g ts k3 _ _ _ sv [44] q3 hl))) | (apply Evl_x; (case hs => (intro _ _ h; cases h)); (case hx => rfl); (case hrun => (intro w; simp [wtb, AV.val, go_sem]; (try go_bits); rfl)))))); (case hT => ((try simp (disch := omega) only [wtn, pc, PS.cells, Tok.av, List.append_eq, List.foldl_cons, List.foldl_nil, List.map_cons, List.map_nil, Nat.reduceAdd, Nat.reduceMul, Nat.reduceSub, ↓reduceIte, Nat.reduceEqDiff]); rfl))) | (refine awpL_cons rfl ?_; ((first | (refine Stp_k 11 rfl ?_; (first | (refine Stp_call 62 Tryz.f62 [_] _ _ _ rfl rfl Tryz.func62 (by decide) rfl (List.Perm.refl _) (VwL.refl _ _) (take_h _ ts kk _ _ _ sv hsv 1 8192 (by assumption) hl hv (by decide)) ?_; rintro _ _ ⟨k1, e1, l1, c1, rfl, rfl, q1, g1⟩) | (refine Stp_call 61 Tryz.f61 [_] _ _ _ rfl rfl Tryz.func61 (by decide) rfl (List.perm_middle (l₁ := [_])) (VwL.refl _ _) (fail_e0 _ ts k1 _ _ _ sv hsv _ ts[kk] (by omega)) ?_; rintro _ _ ⟨rfl, rfl⟩) | (refine Stp_call 61 Tryz.f61 [_] _ _ _ rfl rfl Tryz.func61 (by decide) rfl (List.Perm.refl _) (VwL.refl _ _) (fail_en _ ts k1 _ _ _ sv hsv _ ts[kk] (by omega)) ?_; rintro _ _ ⟨rfl, rfl⟩) | (refine Stp_call 100 Tryz.f100 [_] _ _ _ rfl rfl Tryz.func100 (by decide) rfl (List.Perm.refl _) (VwL.refl _ _) (number_h _ ts k1 _ _ _ sv hsv q1 hl hv hN'.out) ?_; rintro _ _ ⟨k3, e3, l3, c3, n3, rfl, rfl, q3, g3⟩) | (refine Stp_call 100 Tryz.f100 [_] _ _ _ rfl rfl Tryz.func100 (by decide) rfl (List.perm_middle (l₁ := [_])) (VwL.refl _ _) (number_h _ ts k1 _ _ _ sv hsv q1 hl hv hN'.out) ?_; rintro _ _ ⟨k3, e3, l3, c3, n3, rfl, rfl, q3, g3⟩))) | (refine Stp_k 13 rfl ?_; ((refine Stp_append _ _ _ _ _ _ _ _ _ _ _ _ _ _ rfl rfl FRow.out (Src.row _ rfl FRow.out) HElem.out (by first | rfl | fail) (fits _ _ (by omega) (by decide)) (fun ad cap => ?_)))) | (refine Stp_k 14 rfl ?_; ((refine Stp_alloc _ _ rfl HZero.out rfl (fun b => ?_)))) | (refine Stp_k 16 rfl ?_; ((refine Stp_store _ _ _ _ _ _ _ rfl rfl FBox.out HSize.out (by first | rfl | fail) (by first | exact Nat.le_of_ble_eq_true rfl | fail) ?_))) | (refine Stp_k 17 rfl ?_; ((refine Stp_buildSlice _ _ _ _ _ _ _ _ rfl HElem.out (by first | rfl | fail) rfl (by decide) rfl (fun b => ?_))))); apply awpL_cong; (case hT => ((try simp (disch := omega) only [wtn, pc, PS.cells, Tok.av, List.append_eq, List.foldl_cons, List.foldl_nil, List.map_cons, List.map_nil, Nat.reduceAdd, Nat.reduceMul, Nat.reduceSub, ↓reduceIte, Nat.reduceEqDiff]); rfl)); (case hH => ((try simp (disch := omega) only [wtn, pc, PS.cells, Tok.av, List.append_eq, List.foldl_cons, List.foldl_nil, List.map_cons, List.map_nil, Nat.reduceAdd, Nat.reduceMul, Nat.reduceSub, ↓reduceIte, Nat.reduceEqDiff]); rfl)))) | fail))
  all_goals first
    | (refine endA_ret _ _ (Res1 rfl (RV.tmp _) (Weak.mk' [_, _] [_] (.cons _ (List.Perm.swap _ _ _)) (VwHs.refl _ _) (VwL.cons Vw.nil VwL.nil))) ?_
       exact ⟨k1, e1, l1, c1, [], rfl, rfl, q1, g6.out _ _ (rung_list (sg := 0) (n := 0) g1 (Got.bad q1 (by assumption) _ _) (Got.bad q1 (by assumption) _ _) (Got.bad q1 (by assumption) _ _)), Nat.zero_le _⟩)
    | (have hk1 := hv' k3 q3 h.2
       have hx := g1.nx (by assumption)
       have hy := g3.2.1
       simp only at hy
       refine ⟨(k3 + 1, e3, l3, c3, rs ++ [(sigv ts[kk].text, n3)], ad, cap), ?_, ⟨?_, ?_, ?_⟩, ?_⟩
       rotate_left 4
       · simp only [ra_app, List.length_append, List.length_cons, List.length_nil]
         exact Weak.mk' [_, _] [_, _] (.cons _ (List.Perm.swap _ _ _)) (VwHs.refl _ _) (by (repeat' (first | exact VwL.nil | (refine VwL.cons ?_ ?_) | exact Vw.refl _ | exact Vw.top _ | fail)))
       · simp only; omega
       · simp only; omega
       · simp only [List.length_append, List.length_cons, List.length_nil]; omega
       · intro s' v hg
         simp only at hg
         refine g6.out _ _ (rung_list (sg := sigv ts[kk].text) g1 ?_ g3 ((hg.step h.1 (Nat.le_succ _)).of (if_pos ⟨q3, h.2⟩)))
         first
           | exact (Got.err q1 (by assumption) 1 (by decide) ts[kk] _).of (by rw [rungT, if_pos (by omega)]; rfl)
           | exact (Got.err q1 (by assumption) 4 (by decide) ts[kk] _).of (by rw [rungT, if_neg (by omega), if_pos (by assumption)]; rfl)
           | exact (Got.pure q1 _).of (by rw [rungT, if_neg (by omega), if_neg (by assumption)]; rfl))
    | (have hx := g1.nx (by assumption)
       have hy := g3.2.1
       simp only at hy
       first
         | refine endA_ret _ _ (Res1 rfl (RV.tmp _) (Weak.mk' [_, _, _] [.box _ (pc ts k3 e3 l3 c3 sv)] (.cons _ (List.perm_middle (l₁ := [_, _]) (l₂ := [])).symm) (VwHs.refl _ _) (VwL.cons (Vw.row (List.Mem.tail _ (List.Mem.tail _ (List.Mem.head _))) (VwL.refl _ _)) VwL.nil))) ?_
         | refine endA_ret _ _ (Res1 rfl (RV.tmp _) (Weak.mk' [_, _, _] [.box _ (pc ts k3 e3 l3 c3 sv)] (.cons _ (.cons _ (List.Perm.swap _ _ _))) (VwHs.refl _ _) (VwL.cons (Vw.row (List.Mem.tail _ (List.Mem.tail _ (List.Mem.head _))) (VwL.refl _ _)) VwL.nil))) ?_
       refine ⟨k3, e3, l3, c3, rs ++ [(sigv ts[kk].text, n3)], ?_, rfl, q3, g6.out _ _ (rung_list (sg := sigv ts[kk].text) g1 ?_ g3 ?_), ?_⟩
       · simp only [ra_app, List.length_append, List.length_cons, List.length_nil]; rfl
       · first
           | exact (Got.err q1 (by assumption) 1 (by decide) ts[kk] _).of (by rw [rungT, if_pos (by omega)]; rfl)
           | exact (Got.err q1 (by assumption) 4 (by decide) ts[kk] _).of (by rw [rungT, if_neg (by omega), if_pos (by assumption)]; rfl)
           | exact (Got.pure q1 _).of (by rw [rungT, if_neg (by omega), if_neg (by assumption)]; rfl)
       · by_cases he : e3 = 0
         · exact (Got.pure q3 _).of (if_neg (fun hq => by rcases h with h | h; exact h he; exact absurd (h ▸ hq.2) (by decide)))
         · exact Got.bad q3 he _ _
       · simp only [List.length_append, List.length_cons, List.length_nil]; omega)
def gBurst (ts : List Tok) (k : Nat) (j : JF) : Except Flt (JF × Nat) := do
  let n ← gNum ts k
  if n < 1 ∨ 16 < n then .error (flt 2 (tkA ts k)) else
  let m ← gNum ts (k + 1)
  .ok ({ j with burst := n, window := m }, k + 2)
theorem gBurst_as (ts : List Tok) (k : Nat) (j : JF) : gBurst ts k j = ((gNum ts k).map fun n => (n, k + 1)) >>= fun p => (if p.1 < 1 ∨ 16 < p.1 then .error (flt 2 (tkA ts k)) else .ok ((), p.2)) >>= fun q => ((gNum ts q.2).map fun n => (n, q.2 + 1)).map fun m => ({ j with burst := p.1, window := m.1 }, m.2) := by
  unfold gBurst
  cases gNum ts k with
  | error f => rfl
  | ok n =>
    simp only [Except.map, bind, Except.bind]
    by_cases h : n < 1 ∨ 16 < n
    · rw [if_pos h, if_pos h]
    · rw [if_neg h, if_neg h]
      cases h3 : gNum ts (k + 1) <;> simp [h3]
theorem burst_got {ts : List Tok} {s s1 s2 s3 : PS} {j : JF} {n m : Int} (g1 : Got ts s ((gNum ts s.k).map fun n => (n, s.k + 1)) s1 n) (g2 : Got ts s1 (if n < 1 ∨ 16 < n then .error (flt 2 (tkA ts s.k)) else .ok ((), s1.k)) s2 ()) (g3 : Got ts s2 ((gNum ts s2.k).map fun n => (n, s2.k + 1)) s3 m) : Got ts s (gBurst ts s.k j) s3 { j with burst := n, window := m } := by
  refine (Got.bind (y := fun n q => (if n < 1 ∨ 16 < n then .error (flt 2 (tkA ts s.k)) else .ok ((), q)) >>= fun q => ((gNum ts q.2).map fun n => (n, q.2 + 1)).map fun m => ({ j with burst := n, window := m.1 }, m.2)) g1 ?_).of (gBurst_as ts s.k j)
  exact Got.bind (y := fun _ q => ((gNum ts q).map fun n => (n, q + 1)).map fun m => ({ j with burst := n, window := m.1 }, m.2)) g2 (g3.val fun m => { j with burst := n, window := m })
theorem fail_h (b : Nat) (ts : List Tok) (k : Nat) (e l c : Int) (sv : AV) (hsv : sv.one = true) (e2 : Int) (h2 : e2 ≠ 0) (t : Tok) (hk : k < ts.length) : Spec Tryz.prog 61 [.box b (pc ts k e l c sv)] [.x (.pointer (some ⟨b, 0, none⟩)), .x (.int .i64 e2), t.av] (fun r H' => ∃ e1 l1 c1, r = .x (.tuple #[]) ∧ H' = [.box b (pc ts k e1 l1 c1 sv)] ∧ (e1 ≠ 0) ∧ Got ts ⟨k, e, l, c⟩ (.error (flt e2 t) : Except Flt (Unit × Nat)) ⟨k, e1, l1, c1⟩ ()) := by
  refine (fail_x b ts ⟨k, e, l, c⟩ sv hsv e2 t).mono fun r H' ⟨h1, h3⟩ => ?_
  have g := Got.test (α := Unit) (s := ⟨k, e, l, c⟩) hk e2 h2 t ()
  by_cases h : e = 0
  · simp only [PS.fail, if_pos h, PS.cells] at h3 g
    exact ⟨_, _, _, h1, h3, h2, g⟩
  · simp only [PS.fail, if_neg h, PS.cells] at h3 g
    exact ⟨_, _, _, h1, h3, h, g⟩
set_option maxRecDepth 100000 in
set_option maxHeartbeats 8000000 in
theorem burst_g (b : Nat) (ts : List Tok) (k : Nat) (e l c : Int) (sv : AV) (hsv : sv.one = true) (j : JF) (hk : k < ts.length) (hl : ts.length ≤ 1000000) (hv : VT ts) (hN : NumTok ts) :
    Spec Tryz.prog 101 [.box b (pc ts k e l c sv)] [.x (.pointer (some ⟨b, 0, none⟩)), .agg j.cells] (fun r H' => ∃ k1 e1 l1 c1 x y, r = .agg { j with burst := x, window := y }.cells ∧ H' = [.box b (pc ts k1 e1 l1 c1 sv)] ∧ k1 < ts.length ∧ Got ts ⟨k, e, l, c⟩ (gBurst ts k j) ⟨k1, e1, l1, c1⟩ { j with burst := x, window := y }) := by
  have hN' := Lib.hid hN
  clear hN
  unfold JF.cells
  refine Spec_of Tryz.func101 rfl ?_
  simp only [Tryz.ntmps101, List.length_cons, List.length_nil, List.replicate_succ, List.replicate_zero, List.cons_append, List.nil_append, Nat.reduceAdd, Nat.reduceSub]
  (repeat' (first | with_reducible (first | refine awp_seq ?_ | refine awp_region ?_ | refine awp_ret ?_ | refine awp_skip ?_ | refine awpL_nil ?_ | refine thenA_normal ?_) | (refine awp_cond _ rfl (fun h => ?_) (fun h => ?_) <;> ((try (simp only [whn] at h)); skip)) | ((first | apply awpL_evl2 rfl | apply awpL_g2 _ _ rfl rfl rfl); (case h => ((try (intro (hp : (_ : Bool) = true); ((try simp only [Bool.and_eq_true, Bool.not_eq_true'] at hp); (try simp only [hp, wte]); (try simp only [whn] at hp)))); (first | (apply Evl_k 0 rfl; (first | exact Evl_mv _ rfl | exact Evl_as _ rfl)) | (apply Evl_k 1 rfl; (first | exact Evl_and _ _ _ _ _ rfl rfl rfl rfl | exact Evl_or' _ _ _ _ _ rfl rfl rfl rfl)) | (apply Evl_k 5 rfl; (exact Evl_field_x _ _ _ _ _ _ rfl rfl HFld.out)) | (apply Evl_k 6 rfl; (exact Evl_load _ _ _ _ _ _ _ _ rfl rfl FBox.out HAgg.out (by first | exact Nat.le_of_ble_eq_true rfl | fail) (by first | exact Nat.le_of_ble_eq_true rfl | fail))) | (apply Evl_k 11 rfl; (first | exact Evl_callL 38 Tryz.f38 _ _ rfl rfl Tryz.func38 (by decide) rfl (by (repeat' (first | exact VwL.nil | (refine VwL.cons ?_ ?_) | exact Vw.box (List.Mem.head _) (VwL.refl _ _) | fail)); done) (failed_s ts _ _ _ _ sv) | exact Evl_callL 36 Tryz.f36 _ _ rfl rfl Tryz.func36 (by decide) rfl (by (repeat' (first | exact VwL.nil | (refine VwL.cons ?_ ?_) | exact Vw.box (List.Mem.tail _ (List.Mem.tail _ (List.Mem.head _))) (VwL.refl _ _) | fail)); done) (now_s ts k _ _ _ sv hk hl))) | (apply Evl_x; (case hs => (intro _ _ h; cases h)); (case hx => rfl); (case hrun => (intro w; simp [wtb, AV.val, go_sem]; (try go_bits); rfl)))))); (case hT => ((try simp (disch := omega) only [wtn, pc, Tok.av, List.append_eq, List.foldl_cons, List.foldl_nil, List.map_cons, List.map_nil, Nat.reduceAdd, Nat.reduceMul, Nat.reduceSub, ↓reduceIte, Nat.reduceEqDiff]); rfl))) | (refine awpL_cons rfl ?_; ((first | (refine Stp_k 11 rfl ?_; (first | (refine Stp_call 100 Tryz.f100 [_] _ _ _ rfl rfl Tryz.func100 (by decide) rfl (List.perm_middle (l₁ := [_, _, _])) (VwL.refl _ _) (number_h _ ts k _ _ _ sv hsv hk hl hv hN'.out) ?_; rintro _ _ ⟨k1, e1, l1, c1, n1, rfl, rfl, q1, g1⟩) | (refine Stp_call 61 Tryz.f61 [_] _ _ _ rfl rfl Tryz.func61 (by decide) rfl (List.Perm.refl _) (VwL.refl _ _) (fail_h _ ts k1 _ _ _ sv hsv _ (by decide) ts[k] q1) ?_; rintro _ _ ⟨e2, l2, c2, rfl, rfl, hz, g2⟩) | (refine Stp_call 100 Tryz.f100 [_] _ _ _ rfl rfl Tryz.func100 (by decide) rfl (List.Perm.refl _) (VwL.refl _ _) (number_h _ ts k1 _ _ _ sv hsv q1 hl hv hN'.out) ?_; rintro _ _ ⟨k3, e3, l3, c3, n3, rfl, rfl, q3, g3⟩))) | (refine Stp_k 14 rfl ?_; ((refine Stp_alloc _ _ rfl HZero.out rfl (fun b => ?_)))) | (refine Stp_k 15 rfl ?_; ((refine Stp_box _ _ rfl (by first | rfl | fail) (fun b => ?_)))) | (refine Stp_k 16 rfl ?_; ((refine Stp_store _ _ _ _ _ _ _ rfl rfl FBox.out HSize.out (by first | rfl | fail) (by first | exact Nat.le_of_ble_eq_true rfl | fail) ?_)))); apply awpL_cong; (case hT => ((try simp (disch := omega) only [wtn, pc, Tok.av, List.append_eq, List.foldl_cons, List.foldl_nil, List.map_cons, List.map_nil, Nat.reduceAdd, Nat.reduceMul, Nat.reduceSub, ↓reduceIte, Nat.reduceEqDiff]); rfl)); (case hH => ((try simp (disch := omega) only [wtn, pc, Tok.av, List.append_eq, List.foldl_cons, List.foldl_nil, List.map_cons, List.map_nil, Nat.reduceAdd, Nat.reduceMul, Nat.reduceSub, ↓reduceIte, Nat.reduceEqDiff]); rfl)))) | fail))
  all_goals refine endA_ret _ _ (Res1 rfl (RV.cell 2 rfl rfl HAgg.out (by simp) (by simp)) (Weak.mk' [_, _, _] [_] (List.perm_middle (l₁ := [_, _, _]) (l₂ := [])).symm (VwHs.refl _ _) (VwL.refl _ _))) ⟨k3, e3, l3, c3, _, _, rfl, rfl, q3, ?_⟩
  · exact (burst_got g1 (g2.of (by rw [tkA_get hk]; exact if_pos h.2)) g3).any (fun he => hz (g3.ok he).1)
  · by_cases he : e3 = 0
    · have h1 := (g3.nx he).2
      have hn : ¬ (n1 < 1 ∨ 16 < n1) := by simp only at h1; omega
      rw [show wrap64 n1 = n1 from by simp only [wrap64]; omega]
      exact burst_got (j := j) g1 ((Got.pure q1 ()).of (if_neg hn)) g3
    · exact (burst_got (n := n1) g1 (by
        by_cases h1 : e1 = 0
        · exact (Got.pure q1 ()).of (if_neg (by omega))
        · exact Got.bad q1 h1 _ _) g3).any he
end Go.Proofs.YtkhhlmonhapmaaaGreatDoor
namespace Go.Proofs.YtkhhlmonhapmaaaGreatDoor
open Go.RowKit
def words : List (List UInt8) := [[114, 117, 110], [101, 110, 118], [110, 101, 101, 100, 115], [114, 101, 97, 100, 121], [114, 101, 115, 116, 97, 114, 116], [98, 97, 99, 107, 111, 102, 102], [98, 117, 114, 115, 116], [115, 116, 111, 112]]
set_option maxRecDepth 100000 in
set_option maxHeartbeats 8000000 in
theorem known_h (s : List UInt8) : Spec Tryz.prog 65 [] [.sq 8 [.x (.string ⟨#[114, 117, 110]⟩), .x (.string ⟨#[101, 110, 118]⟩), .x (.string ⟨#[110, 101, 101, 100, 115]⟩), .x (.string ⟨#[114, 101, 97, 100, 121]⟩), .x (.string ⟨#[114, 101, 115, 116, 97, 114, 116]⟩), .x (.string ⟨#[98, 97, 99, 107, 111, 102, 102]⟩), .x (.string ⟨#[98, 117, 114, 115, 116]⟩), .x (.string ⟨#[115, 116, 111, 112]⟩)], .x (.string (bs s))] (fun r H' => r = .x (.bool (decide (s ∈ words))) ∧ H' = []) := by
  have e : (([.x (.string ⟨#[114, 117, 110]⟩), .x (.string ⟨#[101, 110, 118]⟩), .x (.string ⟨#[110, 101, 101, 100, 115]⟩), .x (.string ⟨#[114, 101, 97, 100, 121]⟩), .x (.string ⟨#[114, 101, 115, 116, 97, 114, 116]⟩), .x (.string ⟨#[98, 97, 99, 107, 111, 102, 102]⟩), .x (.string ⟨#[98, 117, 114, 115, 116]⟩), .x (.string ⟨#[115, 116, 111, 112]⟩)] : List AV)) = sa words := by simp [sa, words, bs]
  rw [e]
  exact rhas_s words s (by simp [words])
set_option maxRecDepth 100000 in
set_option maxHeartbeats 8000000 in
theorem known_s (s : List UInt8) : Spec Tryz.prog 64 [] [.x (.string (bs s))] (fun r H' => r = .x (.bool (decide (s ∈ words))) ∧ H' = []) := by
  refine Spec_of Tryz.func64 rfl ?_
  simp only [Tryz.ntmps64, List.length_cons, List.length_nil, List.replicate_succ, List.replicate_zero, List.cons_append, List.nil_append, Nat.reduceAdd, Nat.reduceSub]
  (repeat' (first | with_reducible (first | refine awp_seq ?_ | refine awp_region ?_ | refine awp_ret ?_ | refine awpL_nil ?_ | refine thenA_normal ?_) | ((apply awpL_evl2 rfl); (case h => ((first | (apply Evl_k 0 rfl; (first | exact Evl_mv _ rfl | exact Evl_as _ rfl)) | (apply Evl_k 11 rfl; (exact Evl_callL 65 Tryz.f65 _ _ rfl rfl Tryz.func65 (by decide) rfl (by (repeat' (first | exact VwL.nil | (refine VwL.cons ?_ ?_) | exact Vw.refl _ | exact Vw.row (List.Mem.head _) (VwL.refl _ _) | fail)); done) (known_h s)))))); (case hT => ((try simp only [wtn]); rfl))) | (refine awpL_cons rfl ?_; (((refine Stp_k 17 rfl ?_; ((refine Stp_buildSlice _ _ _ _ _ _ _ _ rfl HElem.out (by first | rfl | fail) rfl (by decide) rfl (fun b => ?_))))); apply awpL_cong; (case hT => ((try simp only [wtn]); rfl)); (case hH => ((try simp only [wtn]); rfl)))) | fail))
  refine endA_ret _ _ (Res1 rfl (RV.tmp _) (Weak.mk' [_] [] (List.Perm.refl _) (VwHs.refl _ _) (by first | exact VwL.refl _ _ | fail))) ?_
  exact ⟨rfl, rfl⟩
end Go.Proofs.YtkhhlmonhapmaaaGreatDoor
