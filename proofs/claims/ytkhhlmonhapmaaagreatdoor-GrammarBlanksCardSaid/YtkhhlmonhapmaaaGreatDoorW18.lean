import Derived.Test.YtkhhlmonhapmaaaGreatDoorW17
import Derived.Test.YtkhhlmonhapmaaaGreatDoorW7
import Derived.Test.YtkhhlmonhapmaaaGreatDoorW12
import Derived.Test.YtkhhlmonhapmaaaGreatDoorW13
/- The reference's parser, exact: a job. -/
set_option linter.unusedSimpArgs false
set_option linter.unusedVariables false
namespace Go.Proofs.YtkhhlmonhapmaaaGreatDoor
open Go.RowKit
theorem nat_up (k : Nat) : (k : Int) + 1 = ((k + 1 : Nat) : Int) := rfl
def JF.zero : JF := ⟨[], [], [], [], false, [], 0, 0, 0, 0, 0, 0, [], 0, 0⟩
def noEnv (l : List (List UInt8)) : List (List UInt8) := l.filter fun w => w != wEnv
theorem noEnv_snoc (l : List (List UInt8)) (w : List UInt8) : noEnv (l ++ [w]) = if w = wEnv then noEnv l else noEnv l ++ [w] := by
  unfold noEnv
  rw [List.filter_append]
  by_cases h : w = wEnv
  · rw [if_pos h]; simp [h]
  · rw [if_neg h]; simp [h]
theorem noEnv_has (l : List (List UInt8)) (w : List UInt8) (h : w ≠ wEnv) : (noEnv l).contains w = decide (w ∈ l) := by
  rw [Bool.eq_iff_iff]
  simp [noEnv, h]
def jobHead (ts : List Tok) (k : Nat) : Except Flt (Unit × Nat) := if (tkA ts k).kind = 1 ∧ (tkA ts k).text = wJob then .ok ((), k + 1) else .error (flt 60 (tkA ts k))
def nameT (full : Bool) (t : Tok) : Except Flt Unit := if full then .error (flt 1 t) else .ok ()
def Short (ts : List Tok) : Prop := ∀ t ∈ ts, t.text.length ≤ 8192
theorem gJob_as {ts : List Tok} (hS : Short ts) {k : Nat} (hk : k < ts.length) (full : Bool) : gJob ts k full = jobHead ts k >>= fun p => ((gTake ts p.2 1 32).map fun t => (t, p.2 + 1)) >>= fun q => ((nameT full q.1).map fun u => (u, q.2)) >>= fun r => ((gSign ts r.2 [123]).map fun u => (u, r.2 + 1)) >>= fun s => gItems ts q.1 s.2 [] (job0 q.1) := by
  have h8 := hS ts[k] (List.getElem_mem hk)
  unfold gJob jobHead
  have e : gTake ts k 1 8192 = if (tkA ts k).kind ≠ 1 then .error (flt 60 (tkA ts k)) else .ok (tkA ts k) := by
    unfold gTake
    rw [tkA_get hk, if_neg (show ¬ 8192 < ts[k].text.length by omega)]
  rw [e]
  by_cases h1 : (tkA ts k).kind = 1
  · rw [if_neg (fun h => h h1)]
    simp only [bind, Except.bind]
    by_cases h2 : (tkA ts k).text = wJob
    · rw [if_neg (fun h => h h2), if_pos ⟨h1, h2⟩]
      simp only [gName, nameT, bind, Except.bind]
      cases h3 : gTake ts (k + 1) 1 32 with
      | error f => rfl
      | ok t =>
        simp only [Except.map]
        cases full with
        | true => rfl
        | false =>
          simp only [Bool.false_eq_true, if_false]
          cases h4 : gSign ts (k + 2) [123] <;> simp [h4]
    · rw [if_pos h2, if_neg (fun h => h2 h.2)]
  · rw [if_pos h1, if_neg (fun h => h1 h.1)]
    rfl
theorem gItems_end {ts : List Tok} {name : Tok} {k : Nat} {seen : List (List UInt8)} {j : JF} (h : gIs ts k [125] = true) : gItems ts name k seen j = (if seen.contains wRun then .ok ((), k) else .error (flt 6 name) : Except Flt (Unit × Nat)) >>= fun p => ((gSign ts p.2 [125]).map fun u => (u, p.2 + 1)).map fun q => (j, q.2) := by
  rw [gItems, if_pos h]
  cases seen.contains wRun with
  | true => simp [bind, Except.bind, Except.map, gSign, h]
  | false => rfl
theorem gItems_bad {ts : List Tok} {name : Tok} {k : Nat} {seen : List (List UInt8)} {j : JF} (h : gIs ts k [125] = false) (h2 : (tkA ts k).kind ≠ 1 ∨ ¬ (tkA ts k).text ∈ items) : gItems ts name k seen j = .error (flt 60 (tkA ts k)) := by
  rw [gItems, if_neg (by rw [h]; decide), if_pos (by simpa using h2)]
theorem gItems_two {ts : List Tok} {name : Tok} {k : Nat} {seen : List (List UInt8)} {j : JF} (h : gIs ts k [125] = false) (h2 : (tkA ts k).kind = 1) (h3 : (tkA ts k).text ∈ items) (h4 : (tkA ts k).text ≠ wEnv) (h5 : seen.contains (tkA ts k).text = true) : gItems ts name k seen j = .error (flt 5 (tkA ts k)) := by
  rw [gItems, if_neg (by rw [h]; decide), if_neg (by simp [h2, h3]), if_pos ⟨h4, h5⟩]
theorem gItems_step {ts : List Tok} {name : Tok} {k : Nat} {seen : List (List UInt8)} {j : JF} (h : gIs ts k [125] = false) (h2 : (tkA ts k).kind = 1) (h3 : (tkA ts k).text ∈ items) (h4 : ¬ ((tkA ts k).text ≠ wEnv ∧ seen.contains (tkA ts k).text = true)) : gItems ts name k seen j = gItem ts (k + 1) (tkA ts k).text j >>= fun x => if k < x.2 ∧ k < ts.length then gItems ts name x.2 (if (tkA ts k).text = wEnv then seen else seen ++ [(tkA ts k).text]) x.1 else .error (flt 60 (tkA ts k)) := by
  rw [gItems, if_neg (by rw [h]; decide), if_neg (by simp [h2, h3]), if_neg h4]
  cases gItem ts (k + 1) (tkA ts k).text j with
  | error f => rfl
  | ok x => simp only [bind, Except.bind]; split <;> rfl
theorem is1_g (ts : List Tok) (k : Nat) (l c : Int) (sv : AV) (hk : k < ts.length) (hl : ts.length ≤ 1000000) : Spec Tryz.prog 60 [] [.at_ (pc ts k 0 l c sv), .x (.int .i64 1), .x (.string (bs [106, 111, 98]))] (fun r H' => r = .x (.bool (ts[k].kind == 1 && ts[k].text == [106, 111, 98])) ∧ H' = []) := by
  have h := is_s ts k 0 l c sv 1 [106, 111, 98] hk hl
  simp only [isP, List.getElem?_eq_getElem hk] at h
  exact h
theorem job_got {ts : List Tok} (hS : Short ts) {k : Nat} (hk : k < ts.length) {full : Bool} {l c : Int} {s1 s2 s3 s4 : PS} {t : Tok} {j : JF} (hh : ts[k].kind = 1 ∧ ts[k].text = wJob) (g1 : Got ts ⟨k + 1, 0, l, c⟩ ((gTake ts (k + 1) 1 32).map fun t => (t, k + 1 + 1)) s1 t) (g2 : Got ts s1 ((nameT full t).map fun u => (u, s1.k)) s2 ()) (g3 : Got ts s2 ((gSign ts s2.k [123]).map fun u => (u, s2.k + 1)) s3 ()) (g4 : Got ts s3 (gItems ts t s3.k [] (job0 t)) s4 j) : Got ts ⟨k, 0, l, c⟩ (gJob ts k full) s4 j := by
  refine Got.of ?_ (gJob_as hS hk full)
  unfold jobHead
  rw [tkA_get hk, if_pos hh]
  refine Got.step (k2 := k + 1) ?_ rfl (Nat.le_succ _)
  refine (Got.bind (y := fun t q => ((nameT full t).map fun u => (u, q)) >>= fun r => ((gSign ts r.2 [123]).map fun u => (u, r.2 + 1)) >>= fun s => gItems ts t s.2 [] (job0 t)) g1 ?_).of rfl
  refine Got.bind (y := fun _ q => ((gSign ts q [123]).map fun u => (u, q + 1)) >>= fun s => gItems ts t s.2 [] (job0 t)) g2 ?_
  exact Got.bind (y := fun _ q => gItems ts t q [] (job0 t)) g3 g4
theorem Got.off {α β : Type} {ts : List Tok} {s s' : PS} {x : Except Flt (α × Nat)} {y : Except Flt (β × Nat)} {v : α} {w : β} (h : Got ts s x s' v) (hb : s.e ≠ 0) : Got ts s y s' w := ⟨h.1, h.2.1, h.2.2.1, fun e => absurd e hb⟩
theorem Got.flt {α β : Type} {ts : List Tok} {s s' : PS} {f : Flt} {v : α} {w : β} (h : Got ts s (.error f : Except Flt (α × Nat)) s' v) : Got ts s (.error f : Except Flt (β × Nat)) s' w := h
theorem words_items : words = items := rfl
set_option maxRecDepth 100000 in
set_option maxHeartbeats 8000000 in
theorem rjob_g (bp : Nat) (ts : List Tok) (k : Nat) (l c : Int) (sv : AV) (hsv : sv.one = true) (n : Nat) (hk : k < ts.length) (hl : ts.length ≤ 1000000) (hv : VT ts) (hN : NumTok ts) (hS : Short ts) :
    Spec Tryz.prog 37 [.box bp (pc ts k 0 l c sv)] [.x (.pointer (some ⟨bp, 0, none⟩)), .x (.int .i64 n)] (fun r H' => ∃ j k' e' l' c' sv', r = .agg (JF.cells j) ∧ H' = [.box bp (pc ts k' e' l' c' sv')] ∧ sv'.one = true ∧ k' < ts.length ∧ Got ts ⟨k, 0, l, c⟩ (gJob ts k (decide (32 ≤ n))) ⟨k', e', l', c'⟩ j ∧ JB j k' ∧ (e' = 0 → k < k')) := by
  have hN' := Lib.hid hN
  have hS' := Lib.hid hS
  clear hN hS
  have hn := now_s ts k 0 l c sv hk hl
  have hi := is1_g ts k l c sv hk hl
  unfold Tok.av at hn
  simp only [pc]
  refine Spec_of Tryz.func37 rfl ?_
  simp only [Tryz.ntmps37, List.length_cons, List.length_nil, List.replicate_succ, List.replicate_zero, List.cons_append, List.nil_append, Nat.reduceAdd, Nat.reduceSub]
  (repeat' (first | with_reducible (first | refine awp_seq ?_ | refine awp_region ?_ | refine awp_ret ?_ | refine awp_skip ?_ | refine awpL_nil ?_ | refine thenA_normal ?_ | refine thenA_ret ?_) | (refine awp_cond _ rfl (fun h => ?_) (fun h => ?_) <;> ((try (simp only [whn] at h)); skip)) | ((apply awpL_evl2 rfl); (case h => ((first | (apply Evl_k 0 rfl; (exact Evl_mv _ rfl)) | (apply Evl_k 4 rfl; (exact Evl_nil _ rfl (by first | exact .inl ⟨_, rfl⟩ | fail))) | (apply Evl_k 5 rfl; (exact Evl_field_x _ _ _ _ _ _ rfl rfl HFld.out)) | (apply Evl_k 6 rfl; (exact Evl_load _ _ _ _ _ _ _ _ rfl rfl FBox.out HAgg.out (by first | exact Nat.le_of_ble_eq_true rfl | fail) (by first | exact Nat.le_of_ble_eq_true rfl | fail))) | (apply Evl_k 10 rfl; (exact Evl_build _ _ _ _ _ rfl HPl.out (by first | rfl | fail) rfl)) | (apply Evl_k 11 rfl; (first | exact Evl_callL 36 Tryz.f36 _ _ rfl rfl Tryz.func36 (by decide) rfl (by (repeat' (first | exact VwL.nil | (refine VwL.cons ?_ ?_) | exact Vw.box (List.Mem.tail _ (List.Mem.head _)) (VwL.refl _ _) | fail)); done) (hn) | exact Evl_callL 60 Tryz.f60 _ _ rfl rfl Tryz.func60 (by decide) rfl (by (repeat' (first | exact VwL.nil | (refine VwL.cons ?_ ?_) | exact Vw.refl _ | exact Vw.box (List.Mem.tail _ (List.Mem.head _)) (VwL.refl _ _) | fail)); done) (hi))) | (apply Evl_x; (case hs => (intro _ _ h; cases h)); (case hx => rfl); (case hrun => (intro w; simp [wtb, AV.val, go_sem]; (try go_bits); rfl)))))); (case hT => ((try simp (disch := omega) only [wtn, pc, Tok.av, nat_up, List.append_eq, List.foldl_cons, List.foldl_nil, List.map_cons, List.map_nil, Nat.reduceAdd, Nat.reduceMul, Nat.reduceSub, ↓reduceIte, Nat.reduceEqDiff]); rfl))) | (refine awpL_cons rfl ?_; ((first | (refine Stp_k 11 rfl ?_; ((refine Stp_call 61 Tryz.f61 [_] _ _ _ rfl rfl Tryz.func61 (by decide) rfl (List.perm_middle (l₁ := [_])) (VwL.refl _ _) (fail_h _ ts k 0 _ _ sv hsv _ (by decide) ts[k] hk) ?_; rintro _ _ ⟨e2, l2, c2, rfl, rfl, hz2, g2⟩))) | (refine Stp_k 14 rfl ?_; ((refine Stp_alloc _ _ rfl HZero.out rfl (fun b => ?_)))) | (refine Stp_k 16 rfl ?_; ((refine Stp_store _ _ _ _ _ _ _ rfl rfl FBox.out HSize.out (by first | rfl | fail) (by first | exact Nat.le_of_ble_eq_true rfl | fail) ?_)))); apply awpL_cong; (case hT => ((try simp (disch := omega) only [wtn, pc, Tok.av, nat_up, List.append_eq, List.foldl_cons, List.foldl_nil, List.map_cons, List.map_nil, Nat.reduceAdd, Nat.reduceMul, Nat.reduceSub, ↓reduceIte, Nat.reduceEqDiff]); rfl)); (case hH => ((try simp (disch := omega) only [wtn, pc, Tok.av, nat_up, List.append_eq, List.foldl_cons, List.foldl_nil, List.map_cons, List.map_nil, Nat.reduceAdd, Nat.reduceMul, Nat.reduceSub, ↓reduceIte, Nat.reduceEqDiff]); rfl)))) | fail))
  · refine endA_ret _ _ (Res1 rfl (RV.cell 1 rfl rfl HAgg.out (by simp) (by simp)) (Weak.mk' [_] [_] (List.Perm.swap _ _ _) (VwHs.refl _ _) (VwL.cons (Vw.aggx (by (repeat' (first | exact VwL.nil | (refine VwL.cons ?_ ?_) | exact Vw.refl _ | exact Vw.nil | fail)))) VwL.nil))) ⟨JF.zero, k, e2, l2, c2, sv, rfl, rfl, hsv, hk, ?_, ⟨Nat.zero_le _, Nat.zero_le _, Nat.zero_le _⟩, fun h0 => absurd h0 hz2⟩
    refine Got.of ?_ (gJob_as hS'.out hk _)
    unfold jobHead
    rw [tkA_get hk, if_neg (fun hq => by rcases h with h | h; exact h hq.1; exact h hq.2)]
    exact (Got.bind (y := fun _ _ => .error (flt 60 ts[k])) g2 (Got.bad hk hz2 _ JF.zero)).of rfl
  · have hkk := hv k hk (by omega)
    (repeat' (first | with_reducible (first | refine awp_seq ?_ | refine awp_region ?_ | refine awp_block ?_ | refine awp_skip ?_ | refine awpL_nil ?_ | refine thenA_normal ?_) | (refine awp_cond _ rfl (fun h => ?_) (fun h => ?_) <;> ((try (simp only [whn] at h)); skip)) | ((first | apply awpL_evl2 rfl | apply awpL_g2 _ _ rfl rfl rfl); (case h => ((try (intro (hp : (_ : Bool) = true); ((try simp only [hp]); (try simp only [whn] at hp)))); (first | (apply Evl_k 0 rfl; (exact Evl_mv _ rfl)) | (apply Evl_k 1 rfl; (exact Evl_and _ _ _ _ _ rfl rfl rfl rfl)) | (apply Evl_k 4 rfl; (exact Evl_nil _ rfl (by first | exact .inl ⟨_, rfl⟩ | fail))) | (apply Evl_k 5 rfl; (exact Evl_field_x _ _ _ _ _ _ rfl rfl HFld.out)) | (apply Evl_k 6 rfl; (exact Evl_load _ _ _ _ _ _ _ _ rfl rfl FBox.out HAgg.out (by first | exact Nat.le_of_ble_eq_true rfl | fail) (by first | exact Nat.le_of_ble_eq_true rfl | fail))) | (apply Evl_k 10 rfl; (exact Evl_build1 _ _ _ _ rfl HPl.out (by decide) rfl (by simp [wtb, AV.one, Value.oneCell']))) | (apply Evl_k 11 rfl; (exact Evl_callL 38 Tryz.f38 _ _ rfl rfl Tryz.func38 (by decide) rfl (by (repeat' (first | exact VwL.nil | (refine VwL.cons ?_ ?_) | exact Vw.box (List.Mem.tail _ (List.Mem.head _)) (VwL.refl _ _) | fail)); done) (failed_s ts _ _ _ _ sv))) | (apply Evl_x; (case hs => (intro _ _ h; cases h)); (case hx => rfl); (case hrun => (intro w; simp [wtb, AV.val, go_sem]; skip; rfl)))))); (case hT => ((try simp (disch := omega) only [wtn, pc, Tok.av, nat_up, List.append_eq, List.foldl_cons, List.foldl_nil, List.map_cons, List.map_nil, Nat.reduceAdd, Nat.reduceMul, Nat.reduceSub, ↓reduceIte, Nat.reduceEqDiff]); rfl))) | (refine awpL_cons rfl ?_; ((first | (refine Stp_k 11 rfl ?_; (first | (refine Stp_call 62 Tryz.f62 [_] _ _ _ rfl rfl Tryz.func62 (by decide) rfl (List.perm_middle (l₁ := [_])) (VwL.refl _ _) (take_h _ ts (k + 1) 0 _ _ sv hsv 1 32 hkk hl hv (by decide)) ?_; rintro _ _ ⟨k1, e1, l1, c1, rfl, rfl, q1, g1⟩) | (refine Stp_call 61 Tryz.f61 [_] _ _ _ rfl rfl Tryz.func61 (by decide) rfl (List.perm_middle (l₁ := [_])) (VwL.refl _ _) (fail_h _ ts k1 _ _ _ sv hsv _ (by decide) ts[k + 1] q1) ?_; rintro _ _ ⟨e2, l2, c2, rfl, rfl, hz2, g2⟩) | (refine Stp_call 63 Tryz.f63 [_] _ _ _ rfl rfl Tryz.func63 (by decide) rfl (List.perm_middle (l₁ := [_, _])) (VwL.refl _ _) (sign_h _ ts k1 _ _ _ sv hsv [123] q1 hl hv) ?_; rintro _ _ ⟨k3, e3, l3, c3, rfl, rfl, q3, g3⟩) | (refine Stp_call 63 Tryz.f63 [_] _ _ _ rfl rfl Tryz.func63 (by decide) rfl (List.perm_middle (l₁ := [_, _, _])) (VwL.refl _ _) (sign_h _ ts k1 _ _ _ sv hsv [123] q1 hl hv) ?_; rintro _ _ ⟨k3, e3, l3, c3, rfl, rfl, q3, g3⟩))) | (refine Stp_k 14 rfl ?_; ((refine Stp_alloc _ _ rfl HZero.out rfl (fun b => ?_)))) | (refine Stp_k 16 rfl ?_; ((refine Stp_store _ _ _ _ _ _ _ rfl rfl FBox.out HSize.out (by first | rfl | fail) (by first | exact Nat.le_of_ble_eq_true rfl | fail) ?_))) | (refine Stp_k 17 rfl ?_; ((refine Stp_buildSlice _ _ _ _ _ _ _ _ rfl HElem.out (by first | rfl | fail) rfl (by decide) rfl (fun b => ?_))))); apply awpL_cong; (case hT => ((try simp (disch := omega) only [wtn, pc, Tok.av, nat_up, List.append_eq, List.foldl_cons, List.foldl_nil, List.map_cons, List.map_nil, Nat.reduceAdd, Nat.reduceMul, Nat.reduceSub, ↓reduceIte, Nat.reduceEqDiff]); rfl)); (case hH => ((try simp (disch := omega) only [wtn, pc, Tok.av, nat_up, List.append_eq, List.foldl_cons, List.foldl_nil, List.map_cons, List.map_nil, Nat.reduceAdd, Nat.reduceMul, Nat.reduceSub, ↓reduceIte, Nat.reduceEqDiff]); rfl)))) | fail))
    all_goals
      rename_i ob hP tb lb
      obtain ⟨jb, rfl⟩ : ∃ x, x = b := ⟨b, rfl⟩
      have hfin : ∀ s' v, Got ts ⟨k3, e3, l3, c3⟩ (gItems ts ts[k + 1] k3 [] (job0 ts[k + 1])) s' v → Got ts ⟨k, 0, l, c⟩ (gJob ts k (decide (32 ≤ n))) s' v := by
        intro s' v hg
        first
          | exact job_got hS'.out hk hP g1 (g2.of (by rw [decide_eq_true (by omega)]; rfl)) g3 hg
          | (refine job_got hS'.out hk hP g1 ?_ g3 hg
             by_cases he : e1 = 0
             · exact (Got.pure q1 ()).of (by rw [decide_eq_false (by omega)]; rfl)
             · exact Got.bad q1 he _ _)
      have hfin' := Lib.hid hfin
      clear hfin
      have hk1 := g1.2.1
      have hk3 := g3.2.1
      simp only at hk1 hk3
      refine awp_nilrow 9 1 ?_
      apply awp_loopS (S := Nat × Int × Int × Int × JF × List (List UInt8) × Option Addr × Nat) (fun s => frm 128 [(0, .x (.pointer (some ⟨bp, 0, none⟩))), (4, .x (.pointer (some ⟨ob, 0, none⟩))), (5, .x (.pointer (some ⟨tb, 0, none⟩))), (6, .x (.pointer (some ⟨jb, 0, none⟩)))])
        (fun s => [.box bp (pc ts s.1 s.2.1 s.2.2.1 s.2.2.2.1 (.x (.slice s.2.2.2.2.2.2.1 s.2.2.2.2.2.1.length s.2.2.2.2.2.2.2))), .row s.2.2.2.2.2.2.1 s.2.2.2.2.2.1.length s.2.2.2.2.2.2.2 9 1 (sa s.2.2.2.2.2.1), .box jb (JF.cells s.2.2.2.2.1), .box tb [.x (.int .i64 ts[k + 1].kind), .x (.string (bs ts[k + 1].text)), .x (.int .i64 (ts[k + 1].line : Nat)), .x (.int .i64 (ts[k + 1].col : Nat))], .box ob [.x (.string ⟨#[]⟩), .x (.string ⟨#[]⟩), .x (.slice none 0 0), .x (.slice none 0 0), .x (.bool false), .x (.string ⟨#[]⟩), .x (.int .i64 0), .x (.int .u64 0), .x (.int .u64 0), .x (.int .u64 0), .x (.int .i64 0), .x (.int .u64 0), .x (.slice none 0 0), .x (.int .i64 0), .x (.int .i64 0)]])
        (fun s => k + 1 ≤ s.1 ∧ s.1 < ts.length ∧ JB s.2.2.2.2.1 s.1 ∧ s.2.2.2.2.2.1.length ≤ s.1 ∧ ∀ s' v, Got ts ⟨s.1, s.2.1, s.2.2.1, s.2.2.2.1⟩ (gItems ts ts[k + 1] s.1 (noEnv s.2.2.2.2.2.1) s.2.2.2.2.1) s' v → Got ts ⟨k, 0, l, c⟩ (gJob ts k (decide (32 ≤ n))) s' v) (fun s => ts.length - s.1) (k3, e3, l3, c3, job0 ts[k + 1], [], none, 0)
      case h0 => exact Weak.mk' [.row (some ⟨lb, 0, none⟩) 1 1 _ 2 _] [.box bp _, .row none 0 0 _ _ _, .box jb _, .box tb _, .box ob _] (by (repeat' (first | exact List.Perm.refl _ | refine (List.perm_middle (l₁ := [_])).trans (List.Perm.cons _ ?_) | refine (List.perm_middle (l₁ := [_, _, _])).trans (List.Perm.cons _ ?_) | fail))) (VwHs.cons (VwH.refl _ _) (VwHs.cons (VwH.refl _ _) (VwHs.cons (VwH.box _ (by (repeat' (first | exact VwL.nil | apply VwL.cons | exact Vw.refl _ | exact Vw.nil | exact Vw.row (List.Mem.head _) (VwL.refl _ _) | fail)))) (VwHs.cons (VwH.refl _ _) (VwHs.cons (VwH.refl _ _) VwHs.nil))))) (by (repeat' (first | exact VwL.nil | (refine VwL.cons ?_ ?_) | exact Vw.refl _ | exact Vw.top _ | fail)))
      case hi => exact ⟨by simp only; omega, q3, ⟨by simp [job0], by simp [job0], by simp [job0]; omega⟩, by simp, hfin'.out⟩
      rintro ⟨kk, ee, ll, cc, j, ns, ad, cap⟩ ⟨w1, w2, w3, w4, w5⟩
      simp only at w1 w2 w3 w4 w5
      have w6 := Lib.hid w5
      clear w5 hfin'
      simp only [frm, List.replicate_succ, List.replicate_zero, List.foldl_cons, List.foldl_nil, List.set_cons_zero, List.set_cons_succ]
      simp only [JF.cells]
      (repeat' (first | with_reducible (first | refine awp_seq ?_ | refine awp_region ?_ | refine awp_block ?_ | refine awp_ret ?_ | refine awp_skip ?_ | refine awp_exit ?_ | refine awpL_nil ?_ | refine thenA_normal ?_ | refine thenA_exit ?_ | refine thenA_ret ?_ | refine inBlockA_eq ?_ | refine inBlockA_ret ?_) | (refine awp_cond _ rfl (fun h => ?_) (fun h => ?_) <;> ((try (simp only [whn] at h)); skip)) | ((first | apply awpL_evl2 rfl | apply awpL_g2 _ _ rfl rfl rfl); (case h => ((try (intro (hp : (_ : Bool) = true); ((try simp only [Bool.not_eq_true'] at hp); (try simp only [hp, wte]); (try simp only [whn] at hp)))); (first | (apply Evl_k 0 rfl; (exact Evl_mv _ rfl)) | (apply Evl_k 1 rfl; (first | exact Evl_and _ _ _ _ _ rfl rfl rfl rfl | exact Evl_or _ _ _ _ _ rfl rfl rfl rfl)) | (apply Evl_k 4 rfl; (exact Evl_nil _ rfl (by first | exact .inl ⟨_, rfl⟩ | fail))) | (apply Evl_k 5 rfl; (exact Evl_field_x _ _ _ _ _ _ rfl rfl HFld.out)) | (apply Evl_k 6 rfl; (exact Evl_load _ _ _ _ _ _ _ _ rfl rfl FBox.out HAgg.out (by first | exact Nat.le_of_ble_eq_true rfl | fail) (by first | exact Nat.le_of_ble_eq_true rfl | fail))) | (apply Evl_k 11 rfl; (first | exact Evl_callL 38 Tryz.f38 _ _ rfl rfl Tryz.func38 (by decide) rfl (by (repeat' (first | exact VwL.nil | (refine VwL.cons ?_ ?_) | exact Vw.box (List.Mem.head _) (VwL.refl _ _) | fail)); done) (failed_s ts _ _ _ _ _) | exact Evl_callL 60 Tryz.f60 _ _ rfl rfl Tryz.func60 (by decide) rfl (by (repeat' (first | exact VwL.nil | (refine VwL.cons ?_ ?_) | exact Vw.refl _ | exact Vw.box (List.Mem.head _) (VwL.refl _ _) | fail)); done) (is_g ts kk _ _ _ _ [125] w2 hl) | exact Evl_callL 36 Tryz.f36 _ _ rfl rfl Tryz.func36 (by decide) rfl (by (repeat' (first | exact VwL.nil | (refine VwL.cons ?_ ?_) | exact Vw.box (List.Mem.head _) (VwL.refl _ _) | fail)); done) (now_s ts kk _ _ _ _ w2 hl) | exact Evl_call 64 Tryz.f64 _ _ rfl rfl Tryz.func64 (by decide) rfl (VwL.refl _ _) (known_s _) | exact Evl_callL 65 Tryz.f65 _ _ rfl rfl Tryz.func65 (by decide) rfl (by (repeat' (first | exact VwL.nil | (refine VwL.cons ?_ ?_) | exact Vw.refl _ | exact Vw.row (List.Mem.tail _ (List.Mem.head _)) (VwL.refl _ _) | fail)); done) (rhas_s ns [114, 117, 110] (by omega)))) | (apply Evl_x; (case hs => (intro _ _ h; cases h)); (case hx => rfl); (case hrun => (intro w; simp [wtb, AV.val, go_sem]; skip; rfl)))))); (case hT => ((try simp (disch := omega) only [wtn, pc, Tok.av, nat_up, List.append_eq, List.foldl_cons, List.foldl_nil, List.map_cons, List.map_nil, Nat.reduceAdd, Nat.reduceMul, Nat.reduceSub, ↓reduceIte, Nat.reduceEqDiff]); rfl))) | (refine awpL_cons rfl ?_; ((first | (refine Stp_k 11 rfl ?_; (first | (refine Stp_call 61 Tryz.f61 [_] _ _ _ rfl rfl Tryz.func61 (by decide) rfl (List.perm_middle (l₁ := [_])) (VwL.refl _ _) (fail_h _ ts kk _ _ _ _ rfl _ (by decide) ts[kk] w2) ?_; rintro _ _ ⟨e5, l5, c5, rfl, rfl, hz5, g5⟩) | (refine Stp_call 61 Tryz.f61 [_] _ _ _ rfl rfl Tryz.func61 (by decide) rfl (List.Perm.refl _) (VwL.refl _ _) (fail_h _ ts kk _ _ _ _ rfl _ (by decide) ts[k + 1] w2) ?_; rintro _ _ ⟨e5, l5, c5, rfl, rfl, hz5, g5⟩) | (refine Stp_call 63 Tryz.f63 [_] _ _ _ rfl rfl Tryz.func63 (by decide) rfl (List.Perm.refl _) (VwL.refl _ _) (sign_h _ ts kk _ _ _ _ rfl [125] w2 hl hv) ?_; rintro _ _ ⟨k6, e6, l6, c6, rfl, rfl, q6, g6⟩))) | (refine Stp_k 14 rfl ?_; ((refine Stp_alloc _ _ rfl HZero.out rfl (fun b => ?_)))) | (refine Stp_k 16 rfl ?_; ((refine Stp_store _ _ _ _ _ _ _ rfl rfl FBox.out HSize.out (by first | rfl | fail) (by first | exact Nat.le_of_ble_eq_true rfl | fail) ?_)))); apply awpL_cong; (case hT => ((try simp (disch := omega) only [wtn, pc, Tok.av, nat_up, List.append_eq, List.foldl_cons, List.foldl_nil, List.map_cons, List.map_nil, Nat.reduceAdd, Nat.reduceMul, Nat.reduceSub, ↓reduceIte, Nat.reduceEqDiff]); rfl)); (case hH => ((try simp (disch := omega) only [wtn, pc, Tok.av, nat_up, List.append_eq, List.foldl_cons, List.foldl_nil, List.map_cons, List.map_nil, Nat.reduceAdd, Nat.reduceMul, Nat.reduceSub, ↓reduceIte, Nat.reduceEqDiff]); rfl)))) | fail))
      · have he : ee = 0 ∧ gIs ts kk [125] = false := by assumption
        refine endA_ret _ _ ?_ ⟨j, kk, e5, l5, c5, .sq ns.length (sa ns), rfl, rfl, rfl, w2, w6.out _ _ (g5.flt.of ?_), w3, fun h0 => absurd h0 hz5⟩
        · refine Res1 rfl (RV.cell 5 rfl rfl HAgg.out (by simp) (by simp)) (Weak.mk' [_, _, _, _, _] [_] (List.perm_middle (l₁ := [_, _, _, _, _]) (l₂ := [])).symm (VwHs.cons (VwH.box _ (by (repeat' (first | exact VwL.nil | apply VwL.cons | exact Vw.refl _ | exact Vw.row (List.Mem.tail _ (List.Mem.head _)) (VwL.refl _ _) | fail)))) VwHs.nil) (VwL.refl _ _))
        · rw [gItems_bad he.2 (by rw [tkA_get w2, ← words_items]; exact h), tkA_get w2]
      · have he : ee = 0 ∧ gIs ts kk [125] = false := by assumption
        refine awp_drawnQ mixed ?_ ?_
        · decide +kernel
        have hw0 := h
        (repeat' (first | with_reducible (first | refine awp_seq ?_ | refine awp_region ?_ | refine awp_ret ?_ | refine awp_skip ?_ | refine awpL_nil ?_ | refine dr_nil ?_ | refine thenA_normal ?_ | refine thenA_ret ?_ | refine inBlockA_ret ?_) | (refine awp_cond _ rfl (fun h => ?_) (fun h => ?_) <;> ((try (simp only [whn] at h)); skip)) | ((first | apply awpL_evl2 rfl | apply dr_evl2 rfl | apply dr_g2 _ _ rfl rfl rfl); (case h => ((try (intro (hp : (_ : Bool) = true); ((try simp only [Bool.not_eq_true'] at hp); (try simp only [hp, wte]); (try simp only [whn] at hp)))); (first | (apply Evl_k 0 rfl; (exact Evl_mv _ rfl)) | (apply Evl_k 1 rfl; (exact Evl_and _ _ _ _ _ rfl rfl rfl rfl)) | (apply Evl_k 4 rfl; (exact Evl_nil _ rfl (by first | exact .inl ⟨_, rfl⟩ | fail))) | (apply Evl_k 5 rfl; (exact Evl_field_x _ _ _ _ _ _ rfl rfl HFld.out)) | (apply Evl_k 6 rfl; (exact Evl_load _ _ _ _ _ _ _ _ rfl rfl FBox.out HAgg.out (by first | exact Nat.le_of_ble_eq_true rfl | fail) (by first | exact Nat.le_of_ble_eq_true rfl | fail))) | (apply Evl_k 11 rfl; (exact Evl_callL 65 Tryz.f65 _ _ rfl rfl Tryz.func65 (by decide) rfl (by (repeat' (first | exact VwL.nil | (refine VwL.cons ?_ ?_) | exact Vw.refl _ | exact Vw.row (List.Mem.tail _ (List.Mem.tail _ (List.Mem.head _))) (VwL.refl _ _) | fail)); done) (rhas_s ns (ts[kk]'w2).text (by omega)))) | (apply Evl_x; (case hs => (intro _ _ h; cases h)); (case hx => rfl); (case hrun => (intro w; simp [wtb, AV.val, go_sem]; skip; rfl)))))); (case hT => ((try simp (disch := omega) only [wtn, pc, Tok.av, nat_up, List.append_eq, List.foldl_cons, List.foldl_nil, List.map_cons, List.map_nil, Nat.reduceAdd, Nat.reduceMul, Nat.reduceSub, ↓reduceIte, Nat.reduceEqDiff]); rfl))) | (refine awpL_cons rfl ?_; ((first | (refine Stp_k 11 rfl ?_; ((refine Stp_call 61 Tryz.f61 [_] _ _ _ rfl rfl Tryz.func61 (by decide) rfl (List.perm_middle (l₁ := [_])) (VwL.refl _ _) (fail_h _ ts kk _ _ _ _ rfl _ (by decide) ts[kk] w2) ?_; rintro _ _ ⟨e5, l5, c5, rfl, rfl, hz5, g5⟩))) | (refine Stp_k 16 rfl ?_; ((refine Stp_store _ _ _ _ _ _ _ rfl rfl FBox.out HSize.out (by first | rfl | fail) (by first | exact Nat.le_of_ble_eq_true rfl | fail) ?_)))); apply awpL_cong; (case hT => ((try simp (disch := omega) only [wtn, pc, Tok.av, nat_up, List.append_eq, List.foldl_cons, List.foldl_nil, List.map_cons, List.map_nil, Nat.reduceAdd, Nat.reduceMul, Nat.reduceSub, ↓reduceIte, Nat.reduceEqDiff]); rfl)); (case hH => ((try simp (disch := omega) only [wtn, pc, Tok.av, nat_up, List.append_eq, List.foldl_cons, List.foldl_nil, List.map_cons, List.map_nil, Nat.reduceAdd, Nat.reduceMul, Nat.reduceSub, ↓reduceIte, Nat.reduceEqDiff]); rfl)))) | fail))
        · refine endA_ret _ _ ?_ ⟨j, kk, e5, l5, c5, .sq ns.length (sa ns), rfl, rfl, rfl, w2, w6.out _ _ (g5.flt.of ?_), w3, fun h0 => absurd h0 hz5⟩
          · refine Res1 rfl (RV.cell 5 rfl rfl HAgg.out (by simp) (by simp)) (Weak.mk' [_, _, _, _, _] [_] (List.perm_middle (l₁ := [_, _, _, _, _]) (l₂ := [])).symm (VwHs.cons (VwH.box _ (by (repeat' (first | exact VwL.nil | apply VwL.cons | exact Vw.refl _ | exact Vw.row (List.Mem.tail _ (List.Mem.head _)) (VwL.refl _ _) | fail)))) VwHs.nil) (VwL.refl _ _))
          · rw [gItems_two he.2 (by rw [tkA_get w2]; exact hw0.1) (by rw [tkA_get w2, ← words_items]; exact hw0.2) (by rw [tkA_get w2]; exact h.1) (by rw [tkA_get w2, noEnv_has _ _ h.1]; simpa using h.2), tkA_get w2]
        · have hkk2 := hv kk w2 (by omega)
          refine awpP_drawn mixed [11] [_, _] _ (List.Perm.refl _) ?_
          (first | (apply awpP_take 0 rfl rfl (by kernel_rfl) (by intro c T H hp; simp [thenA, inBlockA, jumpA, endA] at hp); (case h => (exact WInd_mv _ rfl))) | fail); (apply awpP_cong; (case hT => ((try simp only [wtn]); rfl)); (case hH => rfl)); (first | (apply awpP_take 1 rfl rfl (by kernel_rfl) (by intro c T H hp; simp [thenA, inBlockA, jumpA, endA] at hp); (case h => (exact WInd_mv _ rfl))) | fail); (apply awpP_cong; (case hT => ((try simp only [wtn]); rfl)); (case hH => rfl)); (first | (apply awpP_take 2 rfl rfl (by kernel_rfl) (by intro c T H hp; simp [thenA, inBlockA, jumpA, endA] at hp); (case h => (exact WInd_nil _ _ _ rfl rfl))) | fail); (apply awpP_cong; (case hT => ((try simp only [wtn]); rfl)); (case hH => rfl)); (first | (apply awpP_take 3 rfl rfl (by kernel_rfl) (by intro c T H hp; simp [thenA, inBlockA, jumpA, endA] at hp); (case h => (exact WInd_field_x _ _ _ _ _ _ rfl rfl HFld.out))) | fail); (apply awpP_cong; (case hT => ((try simp only [wtn]); rfl)); (case hH => rfl)); (first | refine awpP_load 4 rfl rfl (by kernel_rfl) (by intro c T H hp; simp [thenA, inBlockA, jumpA, endA] at hp) _ _ _ _ _ _ _ _ rfl rfl FBox.out HAgg.out (by first | exact Nat.le_of_ble_eq_true rfl | fail) (by first | exact Nat.le_of_ble_eq_true rfl | fail) ?_ | fail); (apply awpP_cong; (case hT => ((try simp only [wtn]); rfl)); (case hH => rfl)); (first | (apply awpP_take 5 rfl rfl (by kernel_rfl) (by intro c T H hp; simp [thenA, inBlockA, jumpA, endA] at hp); (case h => (exact WInd_field_x _ _ _ _ _ _ rfl rfl HFld.out))) | fail); (apply awpP_cong; (case hT => ((try simp only [wtn]); rfl)); (case hH => rfl)); (first | refine awpP_load 6 rfl rfl (by kernel_rfl) (by intro c T H hp; simp [thenA, inBlockA, jumpA, endA] at hp) _ _ _ _ _ _ _ _ rfl rfl FBox.out HAgg.out (by first | exact Nat.le_of_ble_eq_true rfl | fail) (by first | exact Nat.le_of_ble_eq_true rfl | fail) ?_ | fail); (apply awpP_cong; (case hT => ((try simp only [wtn]); rfl)); (case hH => rfl))
          (refine awpP_1 7 (by decide +kernel) rfl rfl ?_; (first | (((refine Stp_k 17 rfl ?_; ((refine Stp_buildSlice _ _ _ _ _ _ _ _ rfl HElem.out (by first | rfl | fail) rfl (by decide) rfl (fun b => ?_))))); apply awpP_cong; (case hT => ((try simp only [wtn]); rfl)); (case hH => ((try simp only [wtn]); rfl))) | fail))
          (refine awpP_1 8 (by decide +kernel) rfl rfl ?_; (first | (((refine Stp_k 13 rfl ?_; ((refine Stp_append _ _ _ _ _ _ _ _ _ _ _ _ _ _ rfl rfl FRow.out (Src.row _ rfl FRow.out) HElem.out (by first | rfl | fail) (fits _ _ (by omega) (by decide)) (fun ad cap => ?_))))); apply awpP_cong; (case hT => ((try simp only [wtn]); rfl)); (case hH => ((try simp only [wtn]); rfl))) | fail))
          (repeat ((first | refine awpP_1 9 (by decide +kernel) rfl rfl ?_ | refine awpP_1 10 (by decide +kernel) rfl rfl ?_ | fail); (first | (apply Stp_evl; (case h => (first | (apply Evl_k 4 rfl; (exact Evl_nil _ rfl (by first | exact .inl ⟨_, rfl⟩ | fail))) | (apply Evl_k 5 rfl; (exact Evl_field_x _ _ _ _ _ _ rfl rfl HFld.out)))); (apply awpP_cong; (case hT => ((try simp only [wtn]); rfl)); (case hH => rfl))) | fail)))
          refine awpP_rest (by decide +kernel) ?_
          refine awpA_cong rfl (by simp only [List.cons_append, List.nil_append]; rfl) ?_
          (refine awpA_1 11 (by decide +kernel) rfl rfl ?_; (first | (((refine Stp_k 16 rfl ?_; ((refine Stp_store _ _ _ _ _ _ _ rfl rfl FBox.out HSize.out (by first | rfl | fail) (by first | exact Nat.le_of_ble_eq_true rfl | fail) ?_)))); apply awpA_cong; (case hT => ((try simp only [wtn]); rfl)); (case hH => ((try simp only [wtn]); rfl))) | fail))
          refine awpA_done (by decide +kernel) ?_
          (repeat' (first | with_reducible (first | refine awp_seq ?_ | refine awp_region ?_ | refine awpL_nil ?_ | refine thenA_normal ?_ | refine inBlockA_normal ?_) | ((apply awpL_evl2 rfl); (case h => ((first | (apply Evl_k 0 rfl; (exact Evl_mv _ rfl)) | (apply Evl_k 4 rfl; (exact Evl_nil _ rfl (by first | exact .inl ⟨_, rfl⟩ | fail))) | (apply Evl_k 5 rfl; (exact Evl_field_x _ _ _ _ _ _ rfl rfl HFld.out)) | (apply Evl_k 6 rfl; (exact Evl_load _ _ _ _ _ _ _ _ rfl rfl FBox.out HAgg.out (by first | exact Nat.le_of_ble_eq_true rfl | fail) (by first | exact Nat.le_of_ble_eq_true rfl | fail))) | (apply Evl_x; (case hs => (intro _ _ h; cases h)); (case hx => rfl); (case hrun => (intro w; simp [wtb, AV.val, go_sem]; (try go_bits); rfl)))))); (case hT => ((try simp (disch := omega) only [wtn, pc, Tok.av, nat_up, JF.cells, List.append_eq, List.foldl_cons, List.foldl_nil, List.map_cons, List.map_nil, Nat.reduceAdd, Nat.reduceMul, Nat.reduceSub, ↓reduceIte, Nat.reduceEqDiff]); rfl))) | (refine awpL_cons rfl ?_; ((first | (refine Stp_k 11 rfl ?_; ((refine Stp_call 66 Tryz.f66 [_] _ _ _ rfl rfl Tryz.func66 (by decide) rfl (List.perm_middle (l₁ := [_])) (VwL.refl _ _) (item_g _ ts (kk + 1) _ _ _ _ rfl j _ hkk2 hl hv hN'.out (w3.mono (by omega)) hw0.2) ?_; rintro _ _ ⟨k7, e7, l7, c7, j7, rfl, rfl, q7, g7, w7⟩))) | (refine Stp_k 16 rfl ?_; ((refine Stp_store _ _ _ _ _ _ _ rfl rfl FBox.out HSize.out (by first | rfl | fail) (by first | exact Nat.le_of_ble_eq_true rfl | fail) ?_)))); apply awpL_cong; (case hT => ((try simp (disch := omega) only [wtn, pc, Tok.av, nat_up, JF.cells, List.append_eq, List.foldl_cons, List.foldl_nil, List.map_cons, List.map_nil, Nat.reduceAdd, Nat.reduceMul, Nat.reduceSub, ↓reduceIte, Nat.reduceEqDiff]); rfl)); (case hH => ((try simp (disch := omega) only [wtn, pc, Tok.av, nat_up, JF.cells, List.append_eq, List.foldl_cons, List.foldl_nil, List.map_cons, List.map_nil, Nat.reduceAdd, Nat.reduceMul, Nat.reduceSub, ↓reduceIte, Nat.reduceEqDiff]); rfl)))) | fail))
          have hq7 := g7.2.1
          simp only at hq7
          refine ⟨(k7, e7, l7, c7, j7, ns ++ [ts[kk].text], ad, cap), by simp only; omega, ⟨by simp only; omega, q7, w7, by simp only [List.length_append, List.length_cons, List.length_nil]; omega, ?_⟩, ?_⟩
          · intro s' v hg
            simp only [noEnv_snoc] at hg
            refine w6.out _ _ (((Got.bind (y := fun j q => if kk < q ∧ kk < ts.length then gItems ts ts[k + 1] q (if ts[kk].text = wEnv then noEnv ns else noEnv ns ++ [ts[kk].text]) j else .error (flt 60 ts[kk])) g7 (hg.of (if_pos ⟨by simp only; omega, w2⟩))).step he.1 (Nat.le_succ _)).of ?_)
            rw [gItems_step he.2 (by rw [tkA_get w2]; exact hw0.1) (by rw [tkA_get w2, ← words_items]; exact hw0.2) ?_, tkA_get w2]
            rw [tkA_get w2]
            rintro ⟨ha, hb⟩
            rw [noEnv_has _ _ ha] at hb
            rcases h with h | h
            · exact ha h
            · exact h (by simpa using hb)
          · simp only [sa_app, List.length_append, List.length_cons, List.length_nil]
            exact Weak.mk' [_, _] [.box bp _, .row ad _ cap _ _ _, .box jb _, .box tb _, .box ob _] (List.Perm.trans (l₂ := [.box bp _, .row ad _ cap _ _ _, .box jb _, .box tb _, .box ob _] ++ [_, _]) (by (repeat' (first | exact List.Perm.refl _ | refine List.Perm.cons _ ?_ | refine (List.perm_middle (l₁ := [_, _])).trans (List.Perm.cons _ ?_) | fail))) List.perm_append_comm) (VwHs.refl _ _) (by (repeat' (first | exact VwL.nil | (refine VwL.cons ?_ ?_) | exact Vw.refl _ | exact Vw.top _ | fail)))
      all_goals
        have hx : ¬ ee = 0 ∨ gIs ts kk [125] = true := by assumption
        have hq6 := g6.2.1
        simp only at hq6
      · have hy : gIs ts kk [125] = true := by rcases hx with hx | hx; exact absurd h.1 hx; exact hx
        refine endA_ret _ _ ?_ ⟨j, k6, e6, l6, c6, .sq ns.length (sa ns), rfl, rfl, rfl, q6, w6.out _ _ ((Got.bind (y := fun _ q => ((gSign ts q [125]).map fun u => (u, q + 1)).map fun q => (j, q.2)) (g5.of (if_neg ?_)) (g6.val fun _ => j)).of (gItems_end hy)), w3.mono hq6, fun _ => by omega⟩
        · refine Res1 rfl (RV.cell 4 rfl rfl HAgg.out (by simp) (by simp)) (Weak.mk' [_, _, _, _] [_] (List.perm_middle (l₁ := [_, _, _, _]) (l₂ := [])).symm (VwHs.cons (VwH.box _ (by (repeat' (first | exact VwL.nil | apply VwL.cons | exact Vw.refl _ | exact Vw.row (List.Mem.head _) (VwL.refl _ _) | fail)))) VwHs.nil) (VwL.refl _ _))
        · rw [noEnv_has _ _ (by decide)]; exact fun hq => h.2 (of_decide_eq_true hq)
      · refine endA_ret _ _ ?_ ⟨j, k6, e6, l6, c6, .sq ns.length (sa ns), rfl, rfl, rfl, q6, w6.out _ _ ?_, w3.mono hq6, fun _ => by omega⟩
        · refine Res1 rfl (RV.cell 4 rfl rfl HAgg.out (by simp) (by simp)) (Weak.mk' [_, _, _, _] [_] (List.perm_middle (l₁ := [_, _, _, _]) (l₂ := [])).symm (VwHs.cons (VwH.box _ (by (repeat' (first | exact VwL.nil | apply VwL.cons | exact Vw.refl _ | exact Vw.row (List.Mem.head _) (VwL.refl _ _) | fail)))) VwHs.nil) (VwL.refl _ _))
        · by_cases he : ee = 0
          · have hy : gIs ts kk [125] = true := by rcases hx with hx | hx; exact absurd he hx; exact hx
            refine (Got.bind (y := fun _ q => ((gSign ts q [125]).map fun u => (u, q + 1)).map fun q => (j, q.2)) ((Got.pure w2 ()).of (if_pos ?_)) (g6.val fun _ => j)).of (gItems_end hy)
            rw [noEnv_has _ _ (by decide)]
            rcases h with h | h
            · exact absurd he h
            · exact decide_eq_true h
          · exact g6.off he
end Go.Proofs.YtkhhlmonhapmaaaGreatDoor
namespace Go.Proofs.YtkhhlmonhapmaaaGreatDoor
theorem lexGo_cnt : ∀ (n : Nat) (p : Nat × Nat) (i : Nat) (l : List UInt8), l.length ≤ n → i ≤ 2000 → (∀ ts, lexGo p i l = .ok ts → ts.length + i ≤ 2001) ∧ ∀ f, lexGo p i l = .error f → f.code ≠ 0
  | n, p, i, l, hn, hi0 => by
    cases hd : l.drop (skp l) with
    | nil =>
      rw [lexGo_end p i l hd]
      exact ⟨fun ts h => (by cases h; simp; omega), fun f h => by cases h⟩
    | cons c r =>
      have hlen := congrArg List.length hd
      simp only [List.length_drop, List.length_cons] at hlen
      cases h1 : one (c :: r) with
      | error e =>
        rw [lexGo_bad p i l c r e hd h1]
        refine ⟨fun ts h => (by cases h), fun f h => ?_⟩
        cases h
        have := one_err h1
        simp only; omega
      | ok x =>
        by_cases hi : 2000 ≤ i
        · rw [lexGo_full p i l c r x hd h1 hi]
          exact ⟨fun ts h => (by cases h), fun f h => by cases h; simp⟩
        · obtain ⟨a, t, m⟩ := x
          obtain ⟨g1, g2, g3, g4⟩ := one_le h1
          simp only at g1 g2 g3 g4
          rw [lexGo_one p i l c r a t m hd h1 g1 (by omega)]
          cases n with
          | zero => omega
          | succ n =>
            obtain ⟨h2, h3⟩ := lexGo_cnt n (plc p (l.take (skp l + m))) (i + 1) ((c :: r).drop m) (by simp only [List.length_drop, List.length_cons]; omega) (by omega)
            cases hr : lexGo (plc p (l.take (skp l + m))) (i + 1) ((c :: r).drop m) with
            | error e => exact ⟨fun ts h => (by cases h), fun f h => by cases h; exact h3 _ hr⟩
            | ok y =>
              refine ⟨fun ts h => ?_, fun f h => by cases h⟩
              cases h
              have := h2 y hr
              simp only [List.length_cons]; omega
end Go.Proofs.YtkhhlmonhapmaaaGreatDoor
namespace Go.Proofs.YtkhhlmonhapmaaaGreatDoor
theorem lex_facts (l : List UInt8) : (∀ f, lex l = .error f → f.code ≠ 0) ∧ ∀ ts, lex l = .ok ts → 0 < ts.length ∧ ts.length ≤ 2001 ∧ VT ts ∧ (∀ t ∈ ts, t.text.length ≤ 1000000) ∧ l.length ≤ 8192 := by
  unfold lex
  split
  · exact ⟨fun f h => (by cases h; simp), fun ts h => by cases h⟩
  · rename_i hl
    obtain ⟨h2, h3⟩ := lexGo_cnt l.length (1, 1) 0 l (Nat.le_refl _) (by omega)
    refine ⟨h3, fun ts h => ?_⟩
    have hc := h2 ts h
    obtain ⟨qs, e, rfl, he, hq, ht⟩ := lexGo_ok l.length (1, 1) 0 l ts (Nat.le_refl _) h
    refine ⟨by simp, by omega, fun k hk hne => ?_, fun t h => (by have := ht t h; omega), by omega⟩
    simp only [List.length_append, List.length_cons, List.length_nil] at hk ⊢
    by_cases hlt : k < qs.length
    · omega
    · exfalso
      rw [List.getElem_append_right (by omega)] at hne
      simp at hne
      exact hne he
end Go.Proofs.YtkhhlmonhapmaaaGreatDoor
