import Derived.Test.YtkhhlmonhapmaaaGreatDoorW13
import Derived.Test.YtkhhlmonhapmaaaGreatDoorW8
import Derived.Test.YtkhhlmonhapmaaaGreatDoorW9
/- The reference's parser, exact: what reading an element does, in one relation. -/
set_option linter.unusedSimpArgs false
set_option linter.unusedVariables false
namespace Go.Proofs.YtkhhlmonhapmaaaGreatDoor
open Go.RowKit
def Got {α : Type} (ts : List Tok) (s : PS) (x : Except Flt (α × Nat)) (s' : PS) (v : α) : Prop :=
  s'.k < ts.length ∧ s.k ≤ s'.k ∧ (s.e ≠ 0 → s' = s) ∧ (s.e = 0 → match x with
    | .ok p => v = p.1 ∧ s' = ⟨p.2, 0, s.l, s.c⟩
    | .error f => f.code ≠ 0 ∧ s'.e = f.code ∧ s'.l = f.line ∧ s'.c = f.col)
theorem Got.bind {α β : Type} {ts : List Tok} {s s1 s2 : PS} {x : Except Flt (α × Nat)} {y : α → Nat → Except Flt (β × Nat)} {a : α} {b : β} (h1 : Got ts s x s1 a) (h2 : Got ts s1 (y a s1.k) s2 b) : Got ts s (x >>= fun p => y p.1 p.2) s2 b := by
  obtain ⟨_, hq1, h1n, h1z⟩ := h1
  obtain ⟨hk, hq2, h2n, h2z⟩ := h2
  refine ⟨hk, Nat.le_trans hq1 hq2, fun h => ?_, fun h => ?_⟩
  · have e := h1n h
    subst e
    exact h2n h
  · have h1' := h1z h
    cases x with
    | ok p =>
      obtain ⟨e1, e2⟩ := h1'
      subst e1 e2
      exact h2z rfl
    | error f =>
      obtain ⟨g1, g2, g3, g4⟩ := h1'
      have e := h2n (by rw [g2]; exact g1)
      subst e
      exact ⟨g1, g2, g3, g4⟩
theorem Got.of {α : Type} {ts : List Tok} {s s' : PS} {x y : Except Flt (α × Nat)} {v : α} (h : Got ts s x s' v) (e : y = x) : Got ts s y s' v := e ▸ h
theorem Got.val {α β : Type} {ts : List Tok} {s s' : PS} {x : Except Flt (α × Nat)} {v : α} (f : α → β) (h : Got ts s x s' v) : Got ts s (x.map fun p => (f p.1, p.2)) s' (f v) := by
  obtain ⟨hk, hq, hn, hz⟩ := h
  refine ⟨hk, hq, hn, fun e => ?_⟩
  have h' := hz e
  cases x with
  | ok p => exact ⟨by rw [h'.1], h'.2⟩
  | error g => exact h'
theorem Got.any {α : Type} {ts : List Tok} {s s' : PS} {x : Except Flt (α × Nat)} {v w : α} (h : Got ts s x s' v) (hb : s'.e ≠ 0) : Got ts s x s' w := by
  obtain ⟨hk, hq, hn, hz⟩ := h
  refine ⟨hk, hq, hn, fun e => ?_⟩
  have h' := hz e
  cases x with
  | ok p => exfalso; rw [h'.2] at hb; exact hb rfl
  | error g => exact h'
theorem Got.pure {α : Type} {ts : List Tok} {s : PS} (hk : s.k < ts.length) (v : α) : Got ts s (.ok (v, s.k)) s v := ⟨hk, Nat.le_refl _, fun _ => rfl, fun e => ⟨rfl, by cases s; simp only at e; subst e; rfl⟩⟩
theorem Got.test {α : Type} {ts : List Tok} {s : PS} (hk : s.k < ts.length) (e2 : Int) (h2 : e2 ≠ 0) (t : Tok) (v : α) : Got ts s (.error (flt e2 t)) (s.fail e2 t) v := by
  refine ⟨by simp only [PS.fail]; split <;> exact hk, by simp only [PS.fail]; split <;> exact Nat.le_refl _, fun e => by simp only [PS.fail, if_neg e], fun e => ?_⟩
  simp only [PS.fail, if_pos e]
  exact ⟨h2, rfl, rfl, rfl⟩
theorem Got.bad {α : Type} {ts : List Tok} {s : PS} (hk : s.k < ts.length) (hb : s.e ≠ 0) (x : Except Flt (α × Nat)) (v : α) : Got ts s x s v := ⟨hk, Nat.le_refl _, fun _ => rfl, fun e => absurd e hb⟩
theorem Got.lt {α : Type} {ts : List Tok} {s s' : PS} {x : Except Flt (α × Nat)} {v : α} (h : Got ts s x s' v) : s'.k < ts.length := h.1
theorem Got.ok {α : Type} {ts : List Tok} {s s' : PS} {x : Except Flt (α × Nat)} {v : α} (h : Got ts s x s' v) (hz : s'.e = 0) : s.e = 0 ∧ x = .ok (v, s'.k) ∧ s'.l = s.l ∧ s'.c = s.c := by
  obtain ⟨hk, -, hn, hz'⟩ := h
  by_cases e : s.e = 0
  · have h' := hz' e
    cases x with
    | ok p => obtain ⟨h1, h2⟩ := h'; subst h1 h2; exact ⟨e, rfl, rfl, rfl⟩
    | error g => exact absurd (h'.2.1 ▸ hz) h'.1
  · exact absurd ((hn e) ▸ hz) e
theorem upon_got {α : Type} {ts : List Tok} {s : PS} (x : Except Flt α) (n : Nat) (v : α) (hk : s.k < ts.length) (ho : ∀ a, s.e = 0 → x = .ok a → a = v ∧ s.k + n < ts.length) (he : ∀ f, x = .error f → f.code ≠ 0) : Got ts s (x.map fun a => (a, s.k + n)) (s.upon x n) v := by
  cases x with
  | ok a =>
    refine ⟨?_, by simp only [PS.upon, PS.on]; split <;> simp, fun e => by simp only [PS.upon, PS.on, if_neg e], fun e => ?_⟩
    · simp only [PS.upon, PS.on]
      split
      · exact (ho a (by assumption) rfl).2
      · exact hk
    · refine ⟨(ho a e rfl).1.symm, ?_⟩
      simp only [PS.upon, PS.on, if_pos e]
  | error f =>
    refine ⟨?_, by simp only [PS.upon, PS.flt]; split <;> simp, fun e => by simp only [PS.upon, PS.flt, if_neg e], fun e => ⟨he f rfl, ?_⟩⟩
    · simp only [PS.upon, PS.flt]
      split <;> exact hk
    · simp only [PS.upon, PS.flt, if_pos e]
      exact ⟨trivial, trivial, trivial⟩
theorem gTake_ok {ts : List Tok} {k : Nat} {kind : Int} {most : Nat} {t : Tok} (h : gTake ts k kind most = .ok t) : t = tkA ts k ∧ t.kind = kind ∧ t.text.length ≤ most := by
  unfold gTake at h
  split at h
  · cases h
  · split at h
    · cases h
    · cases h
      refine ⟨rfl, ?_, by omega⟩
      rename_i h1 _
      exact Decidable.not_not.mp h1
theorem gTake_bad {ts : List Tok} {k : Nat} {kind : Int} {most : Nat} {f : Flt} (h : gTake ts k kind most = .error f) : f.code ≠ 0 := by
  unfold gTake at h
  split at h
  · cases h; simp only [flt]; decide
  · split at h
    · cases h; simp only [flt]; decide
    · cases h
theorem gSign_ok {ts : List Tok} {k : Nat} {s : List UInt8} {u : Unit} (h : gSign ts k s = .ok u) : (tkA ts k).kind = 5 := by
  unfold gSign at h
  split at h
  · rename_i h1
    simp only [gIs, Bool.and_eq_true, beq_iff_eq] at h1
    exact h1.1
  · cases h
theorem gSign_bad {ts : List Tok} {k : Nat} {s : List UInt8} {f : Flt} (h : gSign ts k s = .error f) : f.code ≠ 0 := by
  unfold gSign at h
  split at h
  · cases h
  · cases h; simp only [flt]; decide
theorem take_g (b : Nat) (ts : List Tok) (s : PS) (sv : AV) (hsv : sv.one = true) (kind : Int) (most : Nat) (hk : s.k < ts.length) (hl : ts.length ≤ 1000000) (hv : VT ts) (hkd : kind ≠ 6) :
    Spec Tryz.prog 62 [.box b (s.cells ts sv)] [.x (.pointer (some ⟨b, 0, none⟩)), .x (.int .i64 kind), .x (.int .i64 most)] (fun r H' => ∃ s', r = (tkA ts s.k).av ∧ H' = [.box b (PS.cells s' ts sv)] ∧ Got ts s ((gTake ts s.k kind most).map fun t => (t, s.k + 1)) s' (tkA ts s.k)) := by
  refine (take_x b ts s sv hsv kind most hk hl).mono fun r H' ⟨h1, h2⟩ => ⟨_, h1, h2, upon_got _ 1 _ hk (fun a _ h => ?_) (fun f h => gTake_bad h)⟩
  have g := gTake_ok h
  refine ⟨g.1, hv s.k hk ?_⟩
  rw [← tkA_get hk, ← g.1, g.2.1]
  exact hkd
theorem sign_g (b : Nat) (ts : List Tok) (s : PS) (sv : AV) (hsv : sv.one = true) (t : List UInt8) (hk : s.k < ts.length) (hl : ts.length ≤ 1000000) (hv : VT ts) :
    Spec Tryz.prog 63 [.box b (s.cells ts sv)] [.x (.pointer (some ⟨b, 0, none⟩)), .x (.string (bs t))] (fun r H' => ∃ s', r = .x (.tuple #[]) ∧ H' = [.box b (PS.cells s' ts sv)] ∧ Got ts s ((gSign ts s.k t).map fun u => (u, s.k + 1)) s' ()) := by
  refine (sign_x b ts s sv hsv t hk hl).mono fun r H' ⟨h1, h2⟩ => ⟨_, h1, h2, upon_got _ 1 _ hk (fun a _ h => ?_) (fun f h => gSign_bad h)⟩
  have g := gSign_ok h
  refine ⟨rfl, hv s.k hk ?_⟩
  rw [← tkA_get hk, g]
  decide
theorem number_g (b : Nat) (ts : List Tok) (s : PS) (sv : AV) (hsv : sv.one = true) (hk : s.k < ts.length) (hl : ts.length ≤ 1000000) (hv : VT ts) (hN : NumTok ts) :
    Spec Tryz.prog 100 [.box b (s.cells ts sv)] [.x (.pointer (some ⟨b, 0, none⟩))] (fun r H' => ∃ s' n, r = .x (.int .u64 n) ∧ H' = [.box b (PS.cells s' ts sv)] ∧ Got ts s ((gNum ts s.k).map fun n => (n, s.k + 1)) s' n) := by
  refine (number_x b ts s sv hsv hk hl hN).mono fun r H' ⟨h1, h2⟩ => ⟨_, _, h1, h2, ?_⟩
  have g : Got ts s ((gTake ts s.k 2 18).map fun t => (t, s.k + 1)) (s.upon (gTake ts s.k 2 18) 1) (tkA ts s.k) := upon_got _ 1 _ hk (fun a _ h => by
    have g := gTake_ok h
    refine ⟨g.1, hv s.k hk ?_⟩
    rw [← tkA_get hk, ← g.1, g.2.1]
    decide) (fun f h => gTake_bad h)
  have g2 := (g.val fun t => numv t.text).of (y := (gNum ts s.k).map fun n => (n, s.k + 1)) (by
    unfold gNum
    rw [gNum_eq hN hk]
    cases gTake ts s.k 2 18 <;> rfl)
  split
  · exact g2
  · exact g2.any (by assumption)
def polOf (t : Tok) : Except Flt Int := if t.text = [97, 108, 119, 97, 121, 115] then .ok 3 else if t.text = [111, 110, 45, 102, 97, 105, 108, 117, 114, 101] then .ok 2 else if t.text = [110, 101, 118, 101, 114] then .ok 1 else .error (flt 60 t)
theorem gPol_as (ts : List Tok) (k : Nat) : (gPol ts k).map (fun n => (n, k + 1)) = ((gTake ts k 1 8192).map fun t => (t, k + 1)) >>= fun p => (polOf p.1).map fun n => (n, p.2) := by
  unfold gPol polOf
  cases gTake ts k 1 8192 <;> rfl
set_option maxRecDepth 100000 in
set_option maxHeartbeats 8000000 in
theorem restart_g (b : Nat) (ts : List Tok) (s : PS) (sv : AV) (hsv : sv.one = true) (hk : s.k < ts.length) (hl : ts.length ≤ 1000000) (hv : VT ts) :
    Spec Tryz.prog 99 [.box b (s.cells ts sv)] [.x (.pointer (some ⟨b, 0, none⟩))] (fun r H' => ∃ s' n, r = .x (.int .i64 n) ∧ H' = [.box b (PS.cells s' ts sv)] ∧ Got ts s ((gPol ts s.k).map fun n => (n, s.k + 1)) s' n) := by
  have hT := take_g b ts s sv hsv 1 8192 hk hl hv (by decide)
  obtain ⟨k, e, l, c⟩ := s
  simp only [tkA_get hk] at hT
  refine Spec_of Tryz.func99 rfl ?_
  simp only [Tryz.ntmps99, List.length_cons, List.length_nil, List.replicate_succ, List.replicate_zero, List.cons_append, List.nil_append, Nat.reduceAdd, Nat.reduceSub]
  (repeat' (first | with_reducible (first | refine awp_seq ?_ | refine awp_region ?_ | refine awp_block ?_ | refine awp_ret ?_ | refine awp_skip ?_ | refine awpL_nil ?_ | refine thenA_normal ?_ | refine thenA_ret ?_ | refine inBlockA_normal ?_ | refine inBlockA_ret ?_) | (refine awp_cond _ rfl (fun h => ?_) (fun h => ?_) <;> ((try (simp only [whn] at h)); skip)) | ((apply awpL_evl2 rfl); (case h => ((first | (apply Evl_k 0 rfl; (first | exact Evl_mv _ rfl | exact Evl_as _ rfl)) | (apply Evl_k 5 rfl; (exact Evl_field_x _ _ _ _ _ _ rfl rfl HFld.out)) | (apply Evl_k 6 rfl; (exact Evl_load _ _ _ _ _ _ _ _ rfl rfl FBox.out HAgg.out (by first | exact Nat.le_of_ble_eq_true rfl | fail) (by first | exact Nat.le_of_ble_eq_true rfl | fail))) | (apply Evl_k 11 rfl; (exact Evl_callL 38 Tryz.f38 _ _ rfl rfl Tryz.func38 (by decide) rfl (by (repeat' (first | exact VwL.nil | (refine VwL.cons ?_ ?_) | exact Vw.box (List.Mem.tail _ (List.Mem.head _)) (VwL.refl _ _) | fail)); done) (failed_s ts _ _ _ _ sv))) | (apply Evl_x; (case hs => (intro _ _ h; cases h)); (case hx => rfl); (case hrun => (intro w; simp [wtb, AV.val, go_sem]; skip; rfl)))))); (case hT => ((try simp (disch := omega) only [wtn, pc, PS.cells, Tok.av, List.append_eq, List.foldl_cons, List.foldl_nil, List.map_cons, List.map_nil, Nat.reduceAdd, Nat.reduceMul, Nat.reduceSub, ↓reduceIte, Nat.reduceEqDiff]); rfl))) | (refine awpL_cons rfl ?_; ((first | (refine Stp_k 11 rfl ?_; (first | (refine Stp_call 62 Tryz.f62 [_] _ _ _ rfl rfl Tryz.func62 (by decide) rfl (List.Perm.refl _) (VwL.refl _ _) (hT) ?_; rintro _ _ ⟨⟨k1, e1, l1, c1⟩, rfl, rfl, g1⟩) | (refine Stp_call 61 Tryz.f61 [_] _ _ _ rfl rfl Tryz.func61 (by decide) rfl (List.perm_middle (l₁ := [_])) (VwL.refl _ _) (fail_x _ ts ⟨k1, _, _, _⟩ sv hsv _ ts[k]) ?_; rintro _ _ ⟨rfl, rfl⟩))) | (refine Stp_k 14 rfl ?_; ((refine Stp_alloc _ _ rfl HZero.out rfl (fun b => ?_)))) | (refine Stp_k 16 rfl ?_; ((refine Stp_store _ _ _ _ _ _ _ rfl rfl FBox.out HSize.out (by first | rfl | fail) (by first | exact Nat.le_of_ble_eq_true rfl | fail) ?_)))); apply awpL_cong; (case hT => ((try simp (disch := omega) only [wtn, pc, PS.cells, Tok.av, List.append_eq, List.foldl_cons, List.foldl_nil, List.map_cons, List.map_nil, Nat.reduceAdd, Nat.reduceMul, Nat.reduceSub, ↓reduceIte, Nat.reduceEqDiff]); rfl)); (case hH => ((try simp (disch := omega) only [wtn, pc, PS.cells, Tok.av, List.append_eq, List.foldl_cons, List.foldl_nil, List.map_cons, List.map_nil, Nat.reduceAdd, Nat.reduceMul, Nat.reduceSub, ↓reduceIte, Nat.reduceEqDiff]); rfl)))) | fail))
  all_goals first
    | (refine endA_ret _ _ (Res1 rfl (RV.tmp _) (Weak.mk' [_] [_] (List.Perm.refl _) (VwHs.refl _ _) (VwL.refl _ _))) ?_; refine ⟨⟨k1, e1, l1, c1⟩, _, rfl, rfl, (Got.bind (y := fun t q => (polOf t).map fun n => (n, q)) g1 ?_).of (gPol_as ts k)⟩)
    | (refine endA_ret _ _ (Res1 rfl (RV.tmp _) (Weak.mk' [_] [_] (List.perm_middle (l₁ := [_]) (l₂ := [])) (VwHs.refl _ _) (VwL.refl _ _))) ?_; refine ⟨PS.fail ⟨k1, e1, l1, c1⟩ 60 ts[k], _, rfl, rfl, (Got.bind (y := fun t q => (polOf t).map fun n => (n, q)) g1 ?_).of (gPol_as ts k)⟩)
  · exact Got.bad g1.1 (by assumption) _ _
  · exact (Got.pure g1.1 3).of (by simp only [polOf, if_pos h]; rfl)
  · exact (Got.pure g1.1 2).of (by simp only [polOf, h]; rfl)
  · exact (Got.pure g1.1 1).of (by simp only [polOf, h]; rfl)
  · exact (Got.test g1.1 60 (by decide) ts[k] 0).of (by simp only [polOf]; rw [if_neg (by assumption), if_neg (by assumption), if_neg (by assumption)]; rfl)
end Go.Proofs.YtkhhlmonhapmaaaGreatDoor
namespace Go.Proofs.YtkhhlmonhapmaaaGreatDoor
open Go.RowKit
def sigL (s : List UInt8) : Int := if s = [72, 85, 80] then 1 else if s = [73, 78, 84] then 2 else if s = [81, 85, 73, 84] then 3 else if s = [85, 83, 82, 49] then 10 else if s = [85, 83, 82, 50] then 12 else if s = [84, 69, 82, 77] then 15 else 0
set_option maxRecDepth 100000 in
set_option maxHeartbeats 8000000 in
theorem signal_s (s : List UInt8) : Spec Tryz.prog 23 [] [.x (.string (bs s))] (fun r H' => r = .x (.int .i64 (sigL s)) ∧ H' = []) := by
  refine Spec_of Tryz.func23 rfl ?_
  simp only [Tryz.ntmps23, List.length_cons, List.length_nil, List.replicate_succ, List.replicate_zero, List.cons_append, List.nil_append, Nat.reduceAdd, Nat.reduceSub]
  (repeat' (first | with_reducible (first | refine awp_seq ?_ | refine awp_region ?_ | refine awp_block ?_ | refine awp_ret ?_ | refine awp_skip ?_ | refine awp_exit ?_ | refine awpL_nil ?_ | refine dr_nil ?_ | refine thenA_normal ?_ | refine thenA_exit ?_ | refine thenA_ret ?_ | refine inBlockA_eq ?_ | refine inBlockA_normal ?_ | refine inBlockA_ret ?_ | refine jumpA_normal ?_ | refine jumpA_exit ?_ | refine jumpA_ret ?_ | refine jumpA_goto ?_ | refine awp_goto ?_ | refine thenA_goto ?_ | refine inBlockA_goto ?_) | (with_reducible refine awp_drawnQ mixed ?_ ?_; (decide +kernel)) | (with_reducible refine inBlockA_ne ?_ ?_; (decide)) | (refine awp_cond _ rfl (fun h => ?_) (fun h => ?_) <;> first | (exact absurd h (by decide)) | ((try (simp only [whn] at h)); first | (exfalso; omega; done) | skip)) | ((first | apply awpL_gf rfl rfl rfl | apply dr_gf rfl rfl rfl); (case hT => rfl)) | ((first | apply awpL_evl2 rfl | apply dr_evl2 rfl | apply awpL_g2 _ _ rfl rfl rfl | apply dr_g2 _ _ rfl rfl rfl); (case h => ((first | (apply Evl_k 0 rfl; (first | exact Evl_mv _ rfl | exact Evl_as _ rfl)) | (apply Evl_k 1 rfl; (first | exact Evl_pickf _ _ _ rfl rfl | exact Evl_pickt _ _ _ rfl rfl | exact Evl_and _ _ _ _ _ rfl rfl rfl rfl | exact Evl_or _ _ _ _ _ rfl rfl rfl rfl | exact Evl_and' _ _ _ _ _ rfl rfl rfl rfl | exact Evl_or' _ _ _ _ _ rfl rfl rfl rfl)) | (apply Evl_k 2 rfl; (first | exact Evl_extract _ _ _ _ rfl rfl rfl)) | (apply Evl_k 3 rfl; (first | exact Evl_len _ _ _ _ _ _ HEl.out rfl rfl)) | (apply Evl_k 4 rfl; (first | exact Evl_nil _ rfl (by first | exact .inl ⟨_, rfl⟩ | exact .inr ⟨_, rfl⟩))) | (apply Evl_k 5 rfl; (first | exact Evl_field_x _ _ _ _ _ _ rfl rfl HFld.out | exact Evl_field_at _ _ _ _ _ rfl rfl HFld.out)) | (apply Evl_k 6 rfl; (first | exact Evl_load_at _ _ _ _ _ rfl rfl HAgg.out (by first | exact Nat.le_of_ble_eq_true rfl | (simp [wlq]; first | done | omega)) (by first | exact Nat.le_of_ble_eq_true rfl | (simp [wlq]; first | done | omega)) | exact Evl_load _ _ _ _ _ _ _ _ rfl rfl FBox.out HAgg.out (by first | exact Nat.le_of_ble_eq_true rfl | (simp [wlq]; first | done | omega)) (by first | exact Nat.le_of_ble_eq_true rfl | (simp [wlq]; first | done | omega)) | exact Evl_load_row _ _ _ _ _ _ _ _ _ _ _ _ rfl rfl FRow.out HAgg.out (by first | exact Nat.le_of_ble_eq_true rfl | (simp [wlq]; first | done | omega)) (by first | exact Nat.le_of_ble_eq_true rfl | (simp [wlq]; first | done | omega)))) | (apply Evl_k 7 rfl; (first | exact Evl_index_sq _ _ _ _ _ _ _ _ _ _ rfl rfl rfl HEl.out rfl (by first | omega | assumption) (by simp; first | done | omega) | exact Evl_index_own _ _ _ _ _ _ _ _ _ _ _ _ rfl rfl rfl HEl.out rfl (by first | omega | assumption))) | (apply Evl_k 8 rfl; (first | exact Evl_index_str _ _ _ _ _ _ _ rfl rfl rfl (by kernel_rfl) rfl (by omega))) | (apply Evl_k 9 rfl; (first | exact Evl_slice_str _ _ _ _ _ _ _ rfl rfl (by kernel_rfl) (by first | exact .inl ⟨rfl, rfl⟩ | exact .inr ⟨_, _, rfl, rfl⟩) (by first | exact .inl ⟨rfl, rfl⟩ | exact .inr ⟨_, _, rfl, rfl⟩) (by omega) (by omega) | exact Evl_slice_sq _ _ _ _ _ _ _ _ _ _ rfl rfl HEl.out (by first | exact .inl ⟨rfl, rfl⟩ | exact .inr ⟨_, _, rfl, rfl⟩) (by first | exact .inl ⟨rfl, rfl⟩ | exact .inr ⟨_, _, rfl, rfl⟩) (by omega) (by omega) | exact Evl_slice_own _ _ _ _ _ _ _ _ _ _ _ _ rfl rfl HEl.out (by first | exact .inl ⟨rfl, rfl⟩ | exact .inr ⟨_, _, rfl, rfl⟩) (by first | exact .inl ⟨rfl, rfl⟩ | exact .inr ⟨_, _, rfl, rfl⟩) (by omega) (by omega))) | (apply Evl_k 10 rfl; (first | exact Evl_build _ _ _ _ _ rfl HPl.out (by first | rfl | (simp; done)) rfl)) | (apply Evl_x; (case hs => (intro _ _ h; cases h)); (case hx => rfl); (case hrun => (intro w; simp [wtb, AV.val, go_sem]; skip; rfl)))))); (case hT => ((try simp only [wtn]); rfl))) | (refine awpL_cons rfl ?_; ((first | (refine Stp_k 13 rfl ?_; (first | (refine Stp_append _ _ _ _ _ _ _ _ _ _ _ _ _ _ rfl rfl FRow.out (Src.row _ rfl FRow.out) HElem.out (by first | rfl | (simp; first | done | omega)) (fits _ _ (by omega) (by decide)) (fun ad cap => ?_)) | (refine Stp_append _ _ _ _ _ _ _ _ _ _ _ _ _ _ rfl rfl FRow.out (Src.sq rfl) HElem.out (by first | rfl | (simp; first | done | omega)) (fits _ _ (by omega) (by decide)) (fun ad cap => ?_)))) | (refine Stp_k 14 rfl ?_; (first | (refine Stp_alloc _ _ rfl HZero.out rfl (fun b => ?_)))) | (refine Stp_k 15 rfl ?_; (first | (refine Stp_box _ _ rfl (by first | rfl | (skip; simp [won, Value.oneCell']; done)) (fun b => ?_)))) | (refine Stp_k 16 rfl ?_; (first | (refine Stp_store _ _ _ _ _ _ _ rfl rfl FBox.out HSize.out (by first | rfl | (skip; simp [won, Value.oneCell']; done)) (by first | exact Nat.le_of_ble_eq_true rfl | (simp [wlq]; first | done | omega)) ?_) | (refine Stp_store_row _ _ _ _ _ _ _ _ _ _ _ rfl rfl FRow.out HSize.out (by first | rfl | (skip; simp [won, Value.oneCell']; done)) (by first | exact Nat.le_of_ble_eq_true rfl | (simp [wlq]; first | done | omega)) ?_))) | (refine Stp_k 17 rfl ?_; (first | (refine Stp_buildSlice _ _ _ _ _ _ _ _ rfl HElem.out (by first | rfl | (skip; simp [won, Value.oneCell']; done)) rfl (by decide) rfl (fun b => ?_))))); apply awpL_cong; (case hT => rfl); (case hH => rfl)))))
  all_goals
    refine endA_ret _ _ (Res1 rfl (RV.tmp _) (Weak.mk' [] _ (List.Perm.refl _) (VwHs.refl _ _) (VwL.refl _ _))) ?_
    refine ⟨?_, rfl⟩
    first | (simp [sigL, ev, *]; done) | (subst_vars; simp [sigL, ev])
end Go.Proofs.YtkhhlmonhapmaaaGreatDoor
namespace Go.Proofs.YtkhhlmonhapmaaaGreatDoor
open Go.RowKit
theorem fail_e0 (b : Nat) (ts : List Tok) (k : Nat) (e l c : Int) (sv : AV) (hsv : sv.one = true) (e2 : Int) (t : Tok) (he : e = 0) : Spec Tryz.prog 61 [.box b (pc ts k e l c sv)] [.x (.pointer (some ⟨b, 0, none⟩)), .x (.int .i64 e2), t.av] (fun r H' => r = .x (.tuple #[]) ∧ H' = [.box b (pc ts k e2 t.line t.col sv)]) := by
  have h := fail_x b ts ⟨k, e, l, c⟩ sv hsv e2 t
  simp only [PS.fail, if_pos he, PS.cells] at h
  exact h
theorem fail_en (b : Nat) (ts : List Tok) (k : Nat) (e l c : Int) (sv : AV) (hsv : sv.one = true) (e2 : Int) (t : Tok) (he : e ≠ 0) : Spec Tryz.prog 61 [.box b (pc ts k e l c sv)] [.x (.pointer (some ⟨b, 0, none⟩)), .x (.int .i64 e2), t.av] (fun r H' => r = .x (.tuple #[]) ∧ H' = [.box b (pc ts k e l c sv)]) := by
  have h := fail_x b ts ⟨k, e, l, c⟩ sv hsv e2 t
  simp only [PS.fail, if_neg he, PS.cells] at h
  exact h
theorem is_g (ts : List Tok) (k : Nat) (e l c : Int) (sv : AV) (s : List UInt8) (hk : k < ts.length) (hl : ts.length ≤ 1000000) : Spec Tryz.prog 60 [] [.at_ (pc ts k e l c sv), .x (.int .i64 5), .x (.string (bs s))] (fun r H' => r = .x (.bool (e == 0 && gIs ts k s)) ∧ H' = []) := by
  have h := is_s ts k e l c sv 5 s hk hl
  rw [isP_gIs hk] at h
  exact h
theorem Got.err {α : Type} {ts : List Tok} {s : PS} (hk : s.k < ts.length) (he : s.e = 0) (e2 : Int) (h2 : e2 ≠ 0) (t : Tok) (v : α) : Got ts s (.error (flt e2 t)) ⟨s.k, e2, t.line, t.col⟩ v :=
  ⟨hk, Nat.le_refl _, fun h => absurd he h, fun _ => ⟨h2, rfl, rfl, rfl⟩⟩
theorem Got.step {α : Type} {ts : List Tok} {k k2 : Nat} {e l c : Int} {s' : PS} {x : Except Flt (α × Nat)} {v : α} (h : Got ts ⟨k2, e, l, c⟩ x s' v) (he : e = 0) (hq : k ≤ k2) : Got ts ⟨k, e, l, c⟩ x s' v :=
  ⟨h.1, Nat.le_trans hq h.2.1, fun hn => absurd he hn, h.2.2.2⟩
theorem Got.last {α β : Type} {ts : List Tok} {s s2 : PS} {x : Except Flt (α × Nat)} {y : α → Nat → Except Flt (β × Nat)} {a : α} {b : β} (h1 : Got ts s x s2 a) (h2 : Got ts s2 (y a s2.k) s2 b) : Got ts s (x >>= fun p => y p.1 p.2) s2 b := Got.bind h1 h2
theorem Got.next {α : Type} {x : Except Flt α} {k k2 : Nat} {v : α} (h : (x.map fun a => (a, k)) = .ok (v, k2)) : k2 = k := by
  cases x with
  | ok a => cases h; rfl
  | error f => cases h
theorem comma_lt {ts : List Tok} (hv : VT ts) {s : List UInt8} (k : Nat) (hk : k < ts.length) (h : gIs ts k s = true) : k + 1 < ts.length := by
  simp only [gIs, Bool.and_eq_true, beq_iff_eq, tkA_get hk] at h
  exact hv k hk (by omega)
theorem gList_as {α : Type} (el : Nat → List α → Except Flt α) (st : Nat) (ts : List Tok) (k : Nat) (out : List α) : gList el st ts k out = ((el k out).map fun x => (x, k + st)) >>= fun p => if p.2 < ts.length ∧ gIs ts p.2 [44] = true then gList el st ts (p.2 + 1) (out ++ [p.1]) else .ok (out ++ [p.1], p.2) := by
  rw [gList]
  cases el k out with
  | error f => rfl
  | ok x =>
    simp only [Except.map, bind, Except.bind]
    split <;> rfl
def needT (out : List (List UInt8)) (t : Tok) : Except Flt (List UInt8) := if 16 ≤ out.length then .error (flt 1 t) else if out.contains t.text then .error (flt 5 t) else .ok t.text
theorem gNeed_as (ts : List Tok) (k : Nat) (out : List (List UInt8)) : (gNeed ts k out).map (fun x => (x, k + 1)) = ((gTake ts k 1 32).map fun t => (t, k + 1)) >>= fun p => (needT out p.1).map fun x => (x, p.2) := by
  unfold gNeed gName needT
  cases gTake ts k 1 32 with
  | error f => rfl
  | ok t =>
    simp only [Except.map, bind, Except.bind, decide_eq_true_eq]
    by_cases h : 16 ≤ out.length
    · rw [if_pos h, if_pos h]
    · rw [if_neg h, if_neg h]
set_option maxRecDepth 100000 in
set_option maxHeartbeats 8000000 in
theorem needs_g (b : Nat) (ts : List Tok) (s : PS) (sv : AV) (hsv : sv.one = true) (hk : s.k < ts.length) (hl : ts.length ≤ 1000000) (hv : VT ts) :
    Spec Tryz.prog 98 [.box b (s.cells ts sv)] [.x (.pointer (some ⟨b, 0, none⟩))] (fun r H' => ∃ s' ns, r = .sq ns.length (sa ns) ∧ H' = [.box b (PS.cells s' ts sv)] ∧ Got ts s (gList (gNeed ts) 1 ts s.k []) s' ns ∧ ns.length ≤ s'.k) := by
  obtain ⟨k, e, l, c⟩ := s
  simp only at hk
  refine Spec_of Tryz.func98 rfl ?_
  simp only [Tryz.ntmps98, List.length_cons, List.length_nil, List.replicate_succ, List.replicate_zero, List.cons_append, List.nil_append, Nat.reduceAdd, Nat.reduceSub]
  (repeat' (first | with_reducible (first | refine awp_seq ?_ | refine awp_region ?_ | refine awp_block ?_ | refine awpL_nil ?_ | refine thenA_normal ?_) | ((apply awpL_evl2 rfl); (case h => (((apply Evl_k 0 rfl; (exact Evl_as _ rfl))))); (case hT => ((try simp only [wtn]); rfl))) | fail))
  refine awp_nilrow 9 1 ?_
  refine awp_loopS (S := Nat × Int × Int × Int × List (List UInt8) × Option Addr × Nat) (fun s => frm 38 [(0, .x (.pointer (some ⟨b, 0, none⟩))), (3, .x (.slice s.2.2.2.2.2.1 s.2.2.2.2.1.length s.2.2.2.2.2.2))])
    (fun s => [.box b (pc ts s.1 s.2.1 s.2.2.1 s.2.2.2.1 sv), .row s.2.2.2.2.2.1 s.2.2.2.2.1.length s.2.2.2.2.2.2 9 1 (sa s.2.2.2.2.1)]) (fun s => s.1 < ts.length ∧ s.2.2.2.2.1.length ≤ s.1 ∧ ∀ s' v, Got ts ⟨s.1, s.2.1, s.2.2.1, s.2.2.2.1⟩ (gList (gNeed ts) 1 ts s.1 s.2.2.2.2.1) s' v → Got ts ⟨k, e, l, c⟩ (gList (gNeed ts) 1 ts k []) s' v) (fun s => ts.length - s.1) (k, e, l, c, [], none, 0) ?a ⟨hk, Nat.zero_le _, fun _ _ h => h⟩ fun s hs => ?_
  case a => exact Weak.mk' [] [_, _] (List.Perm.swap _ _ _) (VwHs.refl _ _) (by (repeat' (first | exact VwL.nil | (refine VwL.cons ?_ ?_) | exact Vw.refl _ | exact Vw.top _ | fail)))
  obtain ⟨kk, ee, ll, cc, ns, ad, cap⟩ := s
  obtain ⟨g2, g4, g5⟩ := hs
  simp only at g2 g4 g5
  have g6 := Lib.hid g5
  clear g5
  have hv' := fun k => comma_lt hv (s := [44]) k
  have hT := take_g b ts ⟨kk, ee, ll, cc⟩ sv hsv 1 32 g2 hl hv (by decide)
  simp only [tkA_get g2] at hT
  replace hT := hT.mono (Q' := fun r H' => ∃ k1 e1 l1 c1, r = ts[kk].av ∧ H' = [.box b (pc ts k1 e1 l1 c1 sv)] ∧ k1 < ts.length ∧ Got ts ⟨kk, ee, ll, cc⟩ ((gTake ts kk 1 32).map fun t => (t, kk + 1)) ⟨k1, e1, l1, c1⟩ ts[kk]) (by rintro r H' ⟨⟨k1, e1, l1, c1⟩, h1, h2, h3⟩; exact ⟨k1, e1, l1, c1, h1, h2, h3.1, h3⟩)
  simp only [frm, List.replicate_succ, List.replicate_zero, List.foldl_cons, List.foldl_nil, List.set_cons_zero, List.set_cons_succ]
  (repeat' (first | with_reducible (first | refine awp_seq ?_ | refine awp_region ?_ | refine awp_block ?_ | refine awp_ret ?_ | refine awp_skip ?_ | refine awpL_nil ?_ | refine thenA_normal ?_ | refine thenA_ret ?_ | refine inBlockA_normal ?_ | refine inBlockA_ret ?_) | (refine awp_cond _ rfl (fun h => ?_) (fun h => ?_) <;> first | (exact absurd h (by decide)) | ((try (simp only [whn] at h)); skip)) | ((apply awpL_evl2 rfl); (case h => ((first | (apply Evl_k 0 rfl; (first | exact Evl_mv _ rfl | exact Evl_as _ rfl)) | (apply Evl_k 4 rfl; (exact Evl_nil _ rfl (by first | exact .inl ⟨_, rfl⟩ | fail))) | (apply Evl_k 5 rfl; (exact Evl_field_x _ _ _ _ _ _ rfl rfl HFld.out)) | (apply Evl_k 6 rfl; (exact Evl_load _ _ _ _ _ _ _ _ rfl rfl FBox.out HAgg.out (by first | exact Nat.le_of_ble_eq_true rfl | fail) (by first | exact Nat.le_of_ble_eq_true rfl | fail))) | (apply Evl_k 11 rfl; (first | exact Evl_callL 38 Tryz.f38 _ _ rfl rfl Tryz.func38 (by decide) rfl (by (repeat' (first | exact VwL.nil | (refine VwL.cons ?_ ?_) | exact Vw.box (List.Mem.tail _ (List.Mem.head _)) (VwL.refl _ _) | fail)); done) (failed_s ts _ _ _ _ sv) | exact Evl_callL 65 Tryz.f65 _ _ rfl rfl Tryz.func65 (by decide) rfl (by (repeat' (first | exact VwL.nil | (refine VwL.cons ?_ ?_) | exact Vw.refl _ | exact Vw.row (List.Mem.tail _ (List.Mem.tail _ (List.Mem.head _))) (VwL.refl _ _) | fail)); done) (rhas_s ns _ (by omega)) | exact Evl_callL 60 Tryz.f60 _ _ rfl rfl Tryz.func60 (by decide) rfl (by (repeat' (first | exact VwL.nil | (refine VwL.cons ?_ ?_) | exact Vw.refl _ | exact Vw.box (List.Mem.tail _ (List.Mem.head _)) (VwL.refl _ _) | exact Vw.box (List.Mem.tail _ (List.Mem.tail _ (List.Mem.head _))) (VwL.refl _ _) | fail)); done) (is_g ts k1 _ _ _ sv [44] g0 hl))) | (apply Evl_x; (case hs => (intro _ _ h; cases h)); (case hx => rfl); (case hrun => (intro w; simp [wtb, AV.val, go_sem]; (try go_bits); rfl)))))); (case hT => ((try simp (disch := omega) only [wtn, pc, PS.cells, Tok.av, List.append_eq, List.foldl_cons, List.foldl_nil, List.map_cons, List.map_nil, Nat.reduceAdd, Nat.reduceMul, Nat.reduceSub, ↓reduceIte, Nat.reduceEqDiff]); rfl))) | (refine awpL_cons rfl ?_; ((first | (refine Stp_k 11 rfl ?_; (first | (refine Stp_call 62 Tryz.f62 [_] _ _ _ rfl rfl Tryz.func62 (by decide) rfl (List.Perm.refl _) (VwL.refl _ _) (hT) ?_; rintro _ _ ⟨k1, e1, l1, c1, rfl, rfl, g0, g1⟩) | (refine Stp_call 61 Tryz.f61 [_] _ _ _ rfl rfl Tryz.func61 (by decide) rfl (List.perm_middle (l₁ := [_])) (VwL.refl _ _) (fail_e0 _ ts k1 _ _ _ sv hsv _ ts[kk] (by omega)) ?_; rintro _ _ ⟨rfl, rfl⟩) | (refine Stp_call 61 Tryz.f61 [_] _ _ _ rfl rfl Tryz.func61 (by decide) rfl (List.Perm.refl _) (VwL.refl _ _) (fail_en _ ts k1 _ _ _ sv hsv _ ts[kk] (by omega)) ?_; rintro _ _ ⟨rfl, rfl⟩))) | (refine Stp_k 13 rfl ?_; ((refine Stp_append _ _ _ _ _ _ _ _ _ _ _ _ _ _ rfl rfl FRow.out (Src.row _ rfl FRow.out) HElem.out (by first | rfl | fail) (fits _ _ (by omega) (by decide)) (fun ad cap => ?_)))) | (refine Stp_k 14 rfl ?_; ((refine Stp_alloc _ _ rfl HZero.out rfl (fun b => ?_)))) | (refine Stp_k 16 rfl ?_; ((refine Stp_store _ _ _ _ _ _ _ rfl rfl FBox.out HSize.out (by first | rfl | fail) (by first | exact Nat.le_of_ble_eq_true rfl | fail) ?_))) | (refine Stp_k 17 rfl ?_; ((refine Stp_buildSlice _ _ _ _ _ _ _ _ rfl HElem.out (by first | rfl | fail) rfl (by decide) rfl (fun b => ?_))))); apply awpL_cong; (case hT => ((try simp (disch := omega) only [wtn, pc, PS.cells, Tok.av, List.append_eq, List.foldl_cons, List.foldl_nil, List.map_cons, List.map_nil, Nat.reduceAdd, Nat.reduceMul, Nat.reduceSub, ↓reduceIte, Nat.reduceEqDiff]); rfl)); (case hH => ((try simp (disch := omega) only [wtn, pc, PS.cells, Tok.av, List.append_eq, List.foldl_cons, List.foldl_nil, List.map_cons, List.map_nil, Nat.reduceAdd, Nat.reduceMul, Nat.reduceSub, ↓reduceIte, Nat.reduceEqDiff]); rfl)))) | fail))
  all_goals first
    | (refine endA_ret _ _ (Res1 rfl (RV.tmp _) (Weak.mk' [_, _] [_] (.cons _ (List.Perm.swap _ _ _)) (VwHs.refl _ _) (VwL.cons Vw.nil VwL.nil))) ?_
       exact ⟨⟨k1, e1, l1, c1⟩, [], rfl, rfl, g6.out _ _ ((Got.bind (y := fun x q => if q < ts.length ∧ gIs ts q [44] = true then gList (gNeed ts) 1 ts (q + 1) (ns ++ [x]) else .ok (ns ++ [x], q)) ((Got.bind (y := fun t q => (needT ns t).map fun x => (x, q)) g1 (Got.bad g1.1 (by assumption) _ ts[kk].text)).of (gNeed_as ts kk ns)) (Got.bad g1.1 (by assumption) _ _)).of (gList_as _ _ _ _ _)), Nat.zero_le _⟩)
    | (have hk1 := hv' k1 g0 h.2
       refine ⟨(k1 + 1, e1, l1, c1, ns ++ [ts[kk].text], ad, cap), ?_, ⟨?_, ?_, ?_⟩, ?_⟩
       rotate_left 4
       · simp only [sa_app, List.length_append, List.length_cons, List.length_nil]
         exact Weak.mk' [_, _] [_, _] (List.Perm.refl _) (VwHs.refl _ _) (by (repeat' (first | exact VwL.nil | (refine VwL.cons ?_ ?_) | exact Vw.refl _ | exact Vw.top _ | fail)))
       · have q := (g1.ok (by assumption)).2.1; have q2 := Got.next q; simp only at q2 ⊢; omega
       · simp only; omega
       · have q := (g1.ok (by assumption)).2.1; have q2 := Got.next q; simp only at q2; simp only [List.length_append, List.length_cons, List.length_nil]; omega
       · intro s' v hg
         simp only at hg
         exact g6.out _ _ ((Got.bind (y := fun x q => if q < ts.length ∧ gIs ts q [44] = true then gList (gNeed ts) 1 ts (q + 1) (ns ++ [x]) else .ok (ns ++ [x], q)) ((Got.bind (y := fun t q => (needT ns t).map fun x => (x, q)) g1 ((Got.pure g1.1 ts[kk].text).of (by rw [needT, if_neg (by omega), if_neg (by simpa using ‹¬ ts[kk].text ∈ ns›)]; rfl))).of (gNeed_as ts kk ns)) ((hg.step (by assumption) (Nat.le_succ _)).of (if_pos ⟨g0, h.2⟩))).of (gList_as _ _ _ _ _)))
    | (refine endA_ret _ _ (Res1 rfl (RV.tmp _) (Weak.mk' [_, _, _] [_] (.cons _ (.cons _ (List.Perm.swap _ _ _))) (VwHs.refl _ _) (VwL.cons (Vw.row (List.Mem.tail _ (List.Mem.tail _ (List.Mem.head _))) (VwL.refl _ _)) VwL.nil))) ?_
       refine ⟨⟨k1, _, _, _⟩, ns ++ [ts[kk].text], ?_, rfl, g6.out _ _ ((Got.last (y := fun x q => if q < ts.length ∧ gIs ts q [44] = true then gList (gNeed ts) 1 ts (q + 1) (ns ++ [x]) else .ok (ns ++ [x], q)) ((Got.bind (y := fun t q => (needT ns t).map fun x => (x, q)) (b := ts[kk].text) g1 ?_).of (gNeed_as ts kk ns)) ?_).of (gList_as _ _ _ _ _)), ?_⟩
       · simp only [sa_app, List.length_append, List.length_cons, List.length_nil]; rfl
       · first
           | exact (Got.err g1.1 (by assumption) 1 (by decide) ts[kk] _).of (by rw [needT, if_pos (by omega)]; rfl)
           | exact (Got.err g1.1 (by assumption) 5 (by decide) ts[kk] _).of (by rw [needT, if_neg (by omega), if_pos (by simpa using ‹ts[kk].text ∈ ns›)]; rfl)
           | exact (Got.pure g1.1 ts[kk].text).of (by rw [needT, if_neg (by omega), if_neg (by simpa using ‹¬ ts[kk].text ∈ ns›)]; rfl)
       · first
           | (refine Got.bad ?_ ?_ _ _; (exact g1.1); (simp only; decide))
           | exact (Got.pure g1.1 _).of (by rw [if_neg (by simp_all)])
       · simp only [List.length_append, List.length_cons, List.length_nil]
         have q := Got.next (g1.ok (by assumption)).2.1
         simp only at q
         omega)
    | (refine endA_ret _ _ (Res1 rfl (RV.tmp _) (Weak.mk' [_, _, _] [_] (.cons _ (List.perm_middle (l₁ := [_, _]) (l₂ := [])).symm) (VwHs.refl _ _) (VwL.cons (Vw.row (List.Mem.tail _ (List.Mem.tail _ (List.Mem.head _))) (VwL.refl _ _)) VwL.nil))) ?_
       refine ⟨⟨k1, _, _, _⟩, ns ++ [ts[kk].text], ?_, rfl, g6.out _ _ ((Got.last (y := fun x q => if q < ts.length ∧ gIs ts q [44] = true then gList (gNeed ts) 1 ts (q + 1) (ns ++ [x]) else .ok (ns ++ [x], q)) ((Got.bind (y := fun t q => (needT ns t).map fun x => (x, q)) (b := ts[kk].text) g1 ?_).of (gNeed_as ts kk ns)) ?_).of (gList_as _ _ _ _ _)), ?_⟩
       · simp only [sa_app, List.length_append, List.length_cons, List.length_nil]; rfl
       · first
           | exact (Got.err g1.1 (by assumption) 1 (by decide) ts[kk] _).of (by rw [needT, if_pos (by omega)]; rfl)
           | exact (Got.err g1.1 (by assumption) 5 (by decide) ts[kk] _).of (by rw [needT, if_neg (by omega), if_pos (by simpa using ‹ts[kk].text ∈ ns›)]; rfl)
           | exact (Got.pure g1.1 ts[kk].text).of (by rw [needT, if_neg (by omega), if_neg (by simpa using ‹¬ ts[kk].text ∈ ns›)]; rfl)
       · first
           | (refine Got.bad ?_ ?_ _ _; (exact g1.1); (simp only; decide))
           | exact (Got.pure g1.1 _).of (by rw [if_neg (by simp_all)])
       · simp only [List.length_append, List.length_cons, List.length_nil]
         have q := Got.next (g1.ok (by assumption)).2.1
         simp only at q
         omega)
end Go.Proofs.YtkhhlmonhapmaaaGreatDoor
namespace Go.Proofs.YtkhhlmonhapmaaaGreatDoor
open Go.RowKit
end Go.Proofs.YtkhhlmonhapmaaaGreatDoor
