import Derived.Test.YtkhhlmonhapmaaaGreatDoorW19
import Derived.Test.YtkhhlmonhapmaaaGreatDoorW17
/- The reference's parser, exact: lists of names and of rungs. -/
namespace Go.Proofs.YtkhhlmonhapmaaaGreatDoor
open Go.RowKit
set_option linter.unusedSimpArgs false
set_option linter.unusedVariables false
theorem fail_e0 (b : Nat) (ts : List Tok) (k : Nat) (e l c : Int) (sv : AV) (hsv : sv.one = true) (e2 : Int) (t : Tok) (he : e = 0) : Spec Tryz.prog 61 [.box b (pc ts k e l c sv)] [.x (.pointer (some ⟨b, 0, none⟩)), .x (.int .i64 e2), t.av] (fun r H' => r = .x (.tuple #[]) ∧ H' = [.box b (pc ts k e2 t.line t.col sv)]) := by
  have h := fail_x b ts ⟨k, e, l, c⟩ sv hsv e2 t
  simp only [PS.fail, if_pos he, PS.cells] at h
  exact h
theorem fail_en (b : Nat) (ts : List Tok) (k : Nat) (e l c : Int) (sv : AV) (hsv : sv.one = true) (e2 : Int) (t : Tok) (he : e ≠ 0) : Spec Tryz.prog 61 [.box b (pc ts k e l c sv)] [.x (.pointer (some ⟨b, 0, none⟩)), .x (.int .i64 e2), t.av] (fun r H' => r = .x (.tuple #[]) ∧ H' = [.box b (pc ts k e l c sv)]) := by
  have h := fail_x b ts ⟨k, e, l, c⟩ sv hsv e2 t
  simp only [PS.fail, if_neg he, PS.cells] at h
  exact h
theorem is_g (ts : List Tok) (k : Nat) (e l c : Int) (sv : AV) (s : List UInt8) (hk : k < ts.length) (hl : ts.length ≤ 1000000) : Spec Tryz.prog 60 [] [.at_ (pc ts k e l c sv), .x (.int .i64 5), .x (.string (bs s))] (fun r H' => r = .x (.bool (e == 0 && gIs ts k s)) ∧ H' = []) := by
  have h := is_s ts k e l c sv 5 s hk hl
  rw [isP_gIs hk] at h
  exact h
theorem Got.err {α : Type} {ts : List Tok} {s : PS} (hk : s.k < ts.length) (he : s.e = 0) (e2 : Int) (h2 : e2 ≠ 0) (t : Tok) (v : α) : Got ts s (.error (flt e2 t)) ⟨s.k, e2, t.line, t.col⟩ v :=
  ⟨hk, Nat.le_refl _, fun h => absurd he h, fun _ => ⟨h2, rfl, rfl, rfl⟩⟩
theorem Got.step {α : Type} {ts : List Tok} {k k2 : Nat} {e l c : Int} {s' : PS} {x : Except Flt (α × Nat)} {v : α} (h : Got ts ⟨k2, e, l, c⟩ x s' v) (he : e = 0) (hq : k ≤ k2) : Got ts ⟨k, e, l, c⟩ x s' v :=
  ⟨h.1, Nat.le_trans hq h.2.1, fun hn => absurd he hn, h.2.2.2⟩
theorem Got.last {α β : Type} {ts : List Tok} {s s2 : PS} {x : Except Flt (α × Nat)} {y : α → Nat → Except Flt (β × Nat)} {a : α} {b : β} (h1 : Got ts s x s2 a) (h2 : Got ts s2 (y a s2.k) s2 b) : Got ts s (x >>= fun p => y p.1 p.2) s2 b := Got.bind h1 h2
theorem Got.next {α : Type} {x : Except Flt α} {k k2 : Nat} {v : α} (h : (x.map fun a => (a, k)) = .ok (v, k2)) : k2 = k := by
  cases x with
  | ok a => cases h; rfl
  | error f => cases h
theorem comma_lt {ts : List Tok} (hv : VT ts) {s : List UInt8} (k : Nat) (hk : k < ts.length) (h : gIs ts k s = true) : k + 1 < ts.length := by
  simp only [gIs, Bool.and_eq_true, beq_iff_eq, tkA_get hk] at h
  exact hv k hk (by omega)
theorem gList_as {α : Type} (el : Nat → List α → Except Flt α) (st : Nat) (ts : List Tok) (k : Nat) (out : List α) : gList el st ts k out = ((el k out).map fun x => (x, k + st)) >>= fun p => if p.2 < ts.length ∧ gIs ts p.2 [44] = true then gList el st ts (p.2 + 1) (out ++ [p.1]) else .ok (out ++ [p.1], p.2) := by
  rw [gList]
  cases el k out with
  | error f => rfl
  | ok x =>
    simp only [Except.map, bind, Except.bind]
    split <;> rfl
def needT (out : List (List UInt8)) (t : Tok) : Except Flt (List UInt8) := if 16 ≤ out.length then .error (flt 1 t) else if out.contains t.text then .error (flt 5 t) else .ok t.text
theorem gNeed_as (ts : List Tok) (k : Nat) (out : List (List UInt8)) : (gNeed ts k out).map (fun x => (x, k + 1)) = ((gTake ts k 1 32).map fun t => (t, k + 1)) >>= fun p => (needT out p.1).map fun x => (x, p.2) := by
  unfold gNeed gName needT
  cases gTake ts k 1 32 with
  | error f => rfl
  | ok t =>
    simp only [Except.map, bind, Except.bind, decide_eq_true_eq]
    by_cases h : 16 ≤ out.length
    · rw [if_pos h, if_pos h]
    · rw [if_neg h, if_neg h]
set_option maxRecDepth 100000 in
set_option maxHeartbeats 8000000 in
theorem needs_g (b : Nat) (ts : List Tok) (s : PS) (sv : AV) (hsv : sv.one = true) (hk : s.k < ts.length) (hl : ts.length ≤ 1000000) (hv : VT ts) :
    Spec Tryz.prog 98 [.box b (s.cells ts sv)] [.x (.pointer (some ⟨b, 0, none⟩))] (fun r H' => ∃ s' ns, r = .sq ns.length (sa ns) ∧ H' = [.box b (PS.cells s' ts sv)] ∧ Got ts s (gList (gNeed ts) 1 ts s.k []) s' ns ∧ ns.length ≤ s'.k) := by
  obtain ⟨k, e, l, c⟩ := s
  simp only at hk
  refine Spec_of Tryz.func98 rfl ?_
  simp only [Tryz.ntmps98, List.length_cons, List.length_nil, List.replicate_succ, List.replicate_zero, List.cons_append, List.nil_append, Nat.reduceAdd, Nat.reduceSub]
  (repeat' (first | with_reducible (first | refine awp_seq ?_ | refine awp_region ?_ | refine awp_block ?_ | refine awpL_nil ?_ | refine thenA_normal ?_) | ((apply awpL_evl2 rfl); (case h => (((apply Evl_k 0 rfl; (exact Evl_as _ rfl))))); (case hT => ((try simp only [wtn]); rfl))) | fail))
  refine awp_nilrow 9 1 ?_
  refine awp_loopS (S := Nat × Int × Int × Int × List (List UInt8) × Option Addr × Nat) (fun s => frm 38 [(0, .x (.pointer (some ⟨b, 0, none⟩))), (3, .x (.slice s.2.2.2.2.2.1 s.2.2.2.2.1.length s.2.2.2.2.2.2))])
    (fun s => [.box b (pc ts s.1 s.2.1 s.2.2.1 s.2.2.2.1 sv), .row s.2.2.2.2.2.1 s.2.2.2.2.1.length s.2.2.2.2.2.2 9 1 (sa s.2.2.2.2.1)]) (fun s => s.1 < ts.length ∧ s.2.2.2.2.1.length ≤ s.1 ∧ ∀ s' v, Got ts ⟨s.1, s.2.1, s.2.2.1, s.2.2.2.1⟩ (gList (gNeed ts) 1 ts s.1 s.2.2.2.2.1) s' v → Got ts ⟨k, e, l, c⟩ (gList (gNeed ts) 1 ts k []) s' v) (fun s => ts.length - s.1) (k, e, l, c, [], none, 0) ?a ⟨hk, Nat.zero_le _, fun _ _ h => h⟩ fun s hs => ?_
  case a => exact Weak.mk' [] [_, _] (List.Perm.swap _ _ _) (VwHs.refl _ _) (by (repeat' (first | exact VwL.nil | (refine VwL.cons ?_ ?_) | exact Vw.refl _ | exact Vw.top _ | fail)))
  obtain ⟨kk, ee, ll, cc, ns, ad, cap⟩ := s
  obtain ⟨g2, g4, g5⟩ := hs
  simp only at g2 g4 g5
  have g6 := Lib.hid g5
  clear g5
  have hv' := fun k => comma_lt hv (s := [44]) k
  have hT := take_g b ts ⟨kk, ee, ll, cc⟩ sv hsv 1 32 g2 hl hv (by decide)
  simp only [tkA_get g2] at hT
  replace hT := hT.mono (Q' := fun r H' => ∃ k1 e1 l1 c1, r = ts[kk].av ∧ H' = [.box b (pc ts k1 e1 l1 c1 sv)] ∧ k1 < ts.length ∧ Got ts ⟨kk, ee, ll, cc⟩ ((gTake ts kk 1 32).map fun t => (t, kk + 1)) ⟨k1, e1, l1, c1⟩ ts[kk]) (by rintro r H' ⟨⟨k1, e1, l1, c1⟩, h1, h2, h3⟩; exact ⟨k1, e1, l1, c1, h1, h2, h3.1, h3⟩)
  simp only [frm, List.replicate_succ, List.replicate_zero, List.foldl_cons, List.foldl_nil, List.set_cons_zero, List.set_cons_succ]
  (repeat' (first | with_reducible (first | refine awp_seq ?_ | refine awp_region ?_ | refine awp_block ?_ | refine awp_ret ?_ | refine awp_skip ?_ | refine awpL_nil ?_ | refine thenA_normal ?_ | refine thenA_ret ?_ | refine inBlockA_normal ?_ | refine inBlockA_ret ?_) | (refine awp_cond _ rfl (fun h => ?_) (fun h => ?_) <;> first | (exact absurd h (by decide)) | ((try (simp only [whn] at h)); skip)) | ((apply awpL_evl2 rfl); (case h => ((first | (apply Evl_k 0 rfl; (first | exact Evl_mv _ rfl | exact Evl_as _ rfl)) | (apply Evl_k 4 rfl; (exact Evl_nil _ rfl (by first | exact .inl ⟨_, rfl⟩ | fail))) | (apply Evl_k 5 rfl; (exact Evl_field_x _ _ _ _ _ _ rfl rfl HFld.out)) | (apply Evl_k 6 rfl; (exact Evl_load _ _ _ _ _ _ _ _ rfl rfl FBox.out HAgg.out (by first | exact Nat.le_of_ble_eq_true rfl | fail) (by first | exact Nat.le_of_ble_eq_true rfl | fail))) | (apply Evl_k 11 rfl; (first | exact Evl_callL 38 Tryz.f38 _ _ rfl rfl Tryz.func38 (by decide) rfl (by (repeat' (first | exact VwL.nil | (refine VwL.cons ?_ ?_) | exact Vw.box (List.Mem.tail _ (List.Mem.head _)) (VwL.refl _ _) | fail)); done) (failed_s ts _ _ _ _ sv) | exact Evl_callL 65 Tryz.f65 _ _ rfl rfl Tryz.func65 (by decide) rfl (by (repeat' (first | exact VwL.nil | (refine VwL.cons ?_ ?_) | exact Vw.refl _ | exact Vw.row (List.Mem.tail _ (List.Mem.tail _ (List.Mem.head _))) (VwL.refl _ _) | fail)); done) (rhas_s ns _ (by omega)) | exact Evl_callL 60 Tryz.f60 _ _ rfl rfl Tryz.func60 (by decide) rfl (by (repeat' (first | exact VwL.nil | (refine VwL.cons ?_ ?_) | exact Vw.refl _ | exact Vw.box (List.Mem.tail _ (List.Mem.head _)) (VwL.refl _ _) | exact Vw.box (List.Mem.tail _ (List.Mem.tail _ (List.Mem.head _))) (VwL.refl _ _) | fail)); done) (is_g ts k1 _ _ _ sv [44] g0 hl))) | (apply Evl_x; (case hs => (intro _ _ h; cases h)); (case hx => rfl); (case hrun => (intro w; simp [wtb, AV.val, go_sem]; (try go_bits); rfl)))))); (case hT => ((try simp (disch := omega) only [wtn, pc, PS.cells, Tok.av, List.append_eq, List.foldl_cons, List.foldl_nil, List.map_cons, List.map_nil, Nat.reduceAdd, Nat.reduceMul, Nat.reduceSub, ↓reduceIte, Nat.reduceEqDiff]); rfl))) | (refine awpL_cons rfl ?_; ((first | (refine Stp_k 11 rfl ?_; (first | (refine Stp_call 62 Tryz.f62 [_] _ _ _ rfl rfl Tryz.func62 (by decide) rfl (List.Perm.refl _) (VwL.refl _ _) (hT) ?_; rintro _ _ ⟨k1, e1, l1, c1, rfl, rfl, g0, g1⟩) | (refine Stp_call 61 Tryz.f61 [_] _ _ _ rfl rfl Tryz.func61 (by decide) rfl (List.perm_middle (l₁ := [_])) (VwL.refl _ _) (fail_e0 _ ts k1 _ _ _ sv hsv _ ts[kk] (by omega)) ?_; rintro _ _ ⟨rfl, rfl⟩) | (refine Stp_call 61 Tryz.f61 [_] _ _ _ rfl rfl Tryz.func61 (by decide) rfl (List.Perm.refl _) (VwL.refl _ _) (fail_en _ ts k1 _ _ _ sv hsv _ ts[kk] (by omega)) ?_; rintro _ _ ⟨rfl, rfl⟩))) | (refine Stp_k 13 rfl ?_; ((refine Stp_append _ _ _ _ _ _ _ _ _ _ _ _ _ _ rfl rfl FRow.out (Src.row _ rfl FRow.out) HElem.out (by first | rfl | fail) (fits _ _ (by omega) (by decide)) (fun ad cap => ?_)))) | (refine Stp_k 14 rfl ?_; ((refine Stp_alloc _ _ rfl HZero.out rfl (fun b => ?_)))) | (refine Stp_k 16 rfl ?_; ((refine Stp_store _ _ _ _ _ _ _ rfl rfl FBox.out HSize.out (by first | rfl | fail) (by first | exact Nat.le_of_ble_eq_true rfl | fail) ?_))) | (refine Stp_k 17 rfl ?_; ((refine Stp_buildSlice _ _ _ _ _ _ _ _ rfl HElem.out (by first | rfl | fail) rfl (by decide) rfl (fun b => ?_))))); apply awpL_cong; (case hT => ((try simp (disch := omega) only [wtn, pc, PS.cells, Tok.av, List.append_eq, List.foldl_cons, List.foldl_nil, List.map_cons, List.map_nil, Nat.reduceAdd, Nat.reduceMul, Nat.reduceSub, ↓reduceIte, Nat.reduceEqDiff]); rfl)); (case hH => ((try simp (disch := omega) only [wtn, pc, PS.cells, Tok.av, List.append_eq, List.foldl_cons, List.foldl_nil, List.map_cons, List.map_nil, Nat.reduceAdd, Nat.reduceMul, Nat.reduceSub, ↓reduceIte, Nat.reduceEqDiff]); rfl)))) | fail))
  all_goals first
    | (refine endA_ret _ _ (Res1 rfl (RV.tmp _) (Weak.mk' [_, _] [_] (.cons _ (List.Perm.swap _ _ _)) (VwHs.refl _ _) (VwL.cons Vw.nil VwL.nil))) ?_
       exact ⟨⟨k1, e1, l1, c1⟩, [], rfl, rfl, g6.out _ _ ((Got.bind (y := fun x q => if q < ts.length ∧ gIs ts q [44] = true then gList (gNeed ts) 1 ts (q + 1) (ns ++ [x]) else .ok (ns ++ [x], q)) ((Got.bind (y := fun t q => (needT ns t).map fun x => (x, q)) g1 (Got.bad g1.1 (by assumption) _ ts[kk].text)).of (gNeed_as ts kk ns)) (Got.bad g1.1 (by assumption) _ _)).of (gList_as _ _ _ _ _)), Nat.zero_le _⟩)
    | (have hk1 := hv' k1 g0 h.2
       refine ⟨(k1 + 1, e1, l1, c1, ns ++ [ts[kk].text], ad, cap), ?_, ⟨?_, ?_, ?_⟩, ?_⟩
       rotate_left 4
       · simp only [sa_app, List.length_append, List.length_cons, List.length_nil]
         exact Weak.mk' [_, _] [_, _] (List.Perm.refl _) (VwHs.refl _ _) (by (repeat' (first | exact VwL.nil | (refine VwL.cons ?_ ?_) | exact Vw.refl _ | exact Vw.top _ | fail)))
       · have q := (g1.ok (by assumption)).2.1; have q2 := Got.next q; simp only at q2 ⊢; omega
       · simp only; omega
       · have q := (g1.ok (by assumption)).2.1; have q2 := Got.next q; simp only at q2; simp only [List.length_append, List.length_cons, List.length_nil]; omega
       · intro s' v hg
         simp only at hg
         exact g6.out _ _ ((Got.bind (y := fun x q => if q < ts.length ∧ gIs ts q [44] = true then gList (gNeed ts) 1 ts (q + 1) (ns ++ [x]) else .ok (ns ++ [x], q)) ((Got.bind (y := fun t q => (needT ns t).map fun x => (x, q)) g1 ((Got.pure g1.1 ts[kk].text).of (by rw [needT, if_neg (by omega), if_neg (by simpa using ‹¬ ts[kk].text ∈ ns›)]; rfl))).of (gNeed_as ts kk ns)) ((hg.step (by assumption) (Nat.le_succ _)).of (if_pos ⟨g0, h.2⟩))).of (gList_as _ _ _ _ _)))
    | (refine endA_ret _ _ (Res1 rfl (RV.tmp _) (Weak.mk' [_, _, _] [_] (.cons _ (.cons _ (List.Perm.swap _ _ _))) (VwHs.refl _ _) (VwL.cons (Vw.row (List.Mem.tail _ (List.Mem.tail _ (List.Mem.head _))) (VwL.refl _ _)) VwL.nil))) ?_
       refine ⟨⟨k1, _, _, _⟩, ns ++ [ts[kk].text], ?_, rfl, g6.out _ _ ((Got.last (y := fun x q => if q < ts.length ∧ gIs ts q [44] = true then gList (gNeed ts) 1 ts (q + 1) (ns ++ [x]) else .ok (ns ++ [x], q)) ((Got.bind (y := fun t q => (needT ns t).map fun x => (x, q)) (b := ts[kk].text) g1 ?_).of (gNeed_as ts kk ns)) ?_).of (gList_as _ _ _ _ _)), ?_⟩
       · simp only [sa_app, List.length_append, List.length_cons, List.length_nil]; rfl
       · first
           | exact (Got.err g1.1 (by assumption) 1 (by decide) ts[kk] _).of (by rw [needT, if_pos (by omega)]; rfl)
           | exact (Got.err g1.1 (by assumption) 5 (by decide) ts[kk] _).of (by rw [needT, if_neg (by omega), if_pos (by simpa using ‹ts[kk].text ∈ ns›)]; rfl)
           | exact (Got.pure g1.1 ts[kk].text).of (by rw [needT, if_neg (by omega), if_neg (by simpa using ‹¬ ts[kk].text ∈ ns›)]; rfl)
       · first
           | (refine Got.bad ?_ ?_ _ _; (exact g1.1); (simp only; decide))
           | exact (Got.pure g1.1 _).of (by rw [if_neg (by simp_all)])
       · simp only [List.length_append, List.length_cons, List.length_nil]
         have q := Got.next (g1.ok (by assumption)).2.1
         simp only at q
         omega)
    | (refine endA_ret _ _ (Res1 rfl (RV.tmp _) (Weak.mk' [_, _, _] [_] (.cons _ (List.perm_middle (l₁ := [_, _]) (l₂ := [])).symm) (VwHs.refl _ _) (VwL.cons (Vw.row (List.Mem.tail _ (List.Mem.tail _ (List.Mem.head _))) (VwL.refl _ _)) VwL.nil))) ?_
       refine ⟨⟨k1, _, _, _⟩, ns ++ [ts[kk].text], ?_, rfl, g6.out _ _ ((Got.last (y := fun x q => if q < ts.length ∧ gIs ts q [44] = true then gList (gNeed ts) 1 ts (q + 1) (ns ++ [x]) else .ok (ns ++ [x], q)) ((Got.bind (y := fun t q => (needT ns t).map fun x => (x, q)) (b := ts[kk].text) g1 ?_).of (gNeed_as ts kk ns)) ?_).of (gList_as _ _ _ _ _)), ?_⟩
       · simp only [sa_app, List.length_append, List.length_cons, List.length_nil]; rfl
       · first
           | exact (Got.err g1.1 (by assumption) 1 (by decide) ts[kk] _).of (by rw [needT, if_pos (by omega)]; rfl)
           | exact (Got.err g1.1 (by assumption) 5 (by decide) ts[kk] _).of (by rw [needT, if_neg (by omega), if_pos (by simpa using ‹ts[kk].text ∈ ns›)]; rfl)
           | exact (Got.pure g1.1 ts[kk].text).of (by rw [needT, if_neg (by omega), if_neg (by simpa using ‹¬ ts[kk].text ∈ ns›)]; rfl)
       · first
           | (refine Got.bad ?_ ?_ _ _; (exact g1.1); (simp only; decide))
           | exact (Got.pure g1.1 _).of (by rw [if_neg (by simp_all)])
       · simp only [List.length_append, List.length_cons, List.length_nil]
         have q := Got.next (g1.ok (by assumption)).2.1
         simp only at q
         omega)
end Go.Proofs.YtkhhlmonhapmaaaGreatDoor
/- The reference's parser: the burst limit. -/
namespace Go.Proofs.YtkhhlmonhapmaaaGreatDoor
open Go.RowKit
set_option linter.unusedSimpArgs false
set_option linter.unusedVariables false
end Go.Proofs.YtkhhlmonhapmaaaGreatDoor
