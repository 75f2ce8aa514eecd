import Derived.Test.YtkhhlmonhapmaaaGreatDoorW17
/- The reference's parser, exact: a fault noted, a token taken, a sign. -/
namespace Go.Proofs.YtkhhlmonhapmaaaGreatDoor
open Go.RowKit
set_option linter.unusedSimpArgs false
set_option linter.unusedVariables false
theorem tkA_get {ts : List Tok} {k : Nat} (h : k < ts.length) : tkA ts k = ts[k] := by simp [tkA, List.getD_eq_getElem?_getD, h]
structure PS where
  k : Nat
  e : Int
  l : Int
  c : Int
def PS.cells (s : PS) (ts : List Tok) (sv : AV) : List AV := pc ts s.k s.e s.l s.c sv
def PS.fail (s : PS) (e : Int) (t : Tok) : PS := if s.e = 0 then ⟨s.k, e, t.line, t.col⟩ else s
def PS.flt (s : PS) (f : Flt) : PS := if s.e = 0 then ⟨s.k, f.code, f.line, f.col⟩ else s
def PS.on (s : PS) (n : Nat) : PS := if s.e = 0 then ⟨s.k + n, 0, s.l, s.c⟩ else s
def PS.upon {α : Type} (s : PS) (x : Except Flt α) (n : Nat) : PS := match x with
  | .ok _ => s.on n
  | .error f => s.flt f
set_option maxRecDepth 100000 in
set_option maxHeartbeats 8000000 in
theorem fail_x (b : Nat) (ts : List Tok) (s : PS) (sv : AV) (hsv : sv.one = true) (e2 : Int) (t : Tok) : Spec Tryz.prog 61 [.box b (s.cells ts sv)] [.x (.pointer (some ⟨b, 0, none⟩)), .x (.int .i64 e2), t.av] (fun r H' => r = .x (.tuple #[]) ∧ H' = [.box b ((s.fail e2 t).cells ts sv)]) := by
  obtain ⟨k, e, l, c⟩ := s
  unfold Tok.av
  simp only [pc, PS.cells, PS.fail]
  refine Spec_of Tryz.func61 rfl ?_
  simp only [Tryz.ntmps61, List.length_cons, List.length_nil, List.replicate_succ, List.replicate_zero, List.cons_append, List.nil_append, Nat.reduceAdd, Nat.reduceSub]
  (repeat' (first | with_reducible (first | refine awp_seq ?_ | refine awp_region ?_ | refine awp_skip ?_ | refine awpL_nil ?_ | refine thenA_normal ?_) | (refine awp_cond _ rfl (fun h => ?_) (fun h => ?_) <;> ((try (simp only [whn] at h)); skip)) | ((apply awpL_evl2 rfl); (case h => ((first | (apply Evl_k 0 rfl; (exact Evl_mv _ rfl)) | (apply Evl_k 4 rfl; (exact Evl_nil _ rfl (by first | exact .inl ⟨_, rfl⟩ | fail))) | (apply Evl_k 5 rfl; (exact Evl_field_x _ _ _ _ _ _ rfl rfl HFld.out)) | (apply Evl_k 6 rfl; (exact Evl_load _ _ _ _ _ _ _ _ rfl rfl FBox.out HAgg.out (by first | exact Nat.le_of_ble_eq_true rfl | fail) (by first | exact Nat.le_of_ble_eq_true rfl | fail))) | (apply Evl_k 10 rfl; (exact Evl_build _ _ _ _ _ rfl HPl.out (by first | rfl | fail) rfl)) | (apply Evl_x; (case hs => (intro _ _ h; cases h)); (case hx => rfl); (case hrun => (intro w; simp [wtb, AV.val, go_sem]; skip; rfl)))))); (case hT => ((try simp only [wtn, ↓reduceIte]); rfl))) | (refine awpL_cons rfl ?_; ((first | (refine Stp_k 15 rfl ?_; ((refine Stp_box _ _ rfl (by first | rfl | fail) (fun b => ?_)))) | (refine Stp_k 16 rfl ?_; ((refine Stp_store _ _ _ _ _ _ _ rfl rfl FBox.out HSize.out (by first | rfl | fail) (by first | exact Nat.le_of_ble_eq_true rfl | fail) ?_)))); apply awpL_cong; (case hT => ((try simp only [wtn]); rfl)); (case hH => ((try simp only [wtn, Nat.reduceAdd]); rfl)))) | fail))
  · refine endA_normal _ _ (Res0 rfl (Weak.mk' [_] [_] (List.Perm.refl _) (VwHs.refl _ _) VwL.nil)) ?_
    exact ⟨rfl, by rw [if_pos h]⟩
  · refine endA_normal _ _ (Res0 rfl (Weak.mk' [_] [_] (List.Perm.refl _) (VwHs.refl _ _) VwL.nil)) ?_
    exact ⟨rfl, by rw [if_neg h]⟩
set_option maxRecDepth 100000 in
set_option maxHeartbeats 8000000 in
theorem take_x (b : Nat) (ts : List Tok) (s : PS) (sv : AV) (hsv : sv.one = true) (kind : Int) (most : Nat) (hk : s.k < ts.length) (hl : ts.length ≤ 1000000) :
    Spec Tryz.prog 62 [.box b (s.cells ts sv)] [.x (.pointer (some ⟨b, 0, none⟩)), .x (.int .i64 kind), .x (.int .i64 most)] (fun r H' => r = (tkA ts s.k).av ∧ H' = [.box b ((s.upon (gTake ts s.k kind most) 1).cells ts sv)]) := by
  obtain ⟨k, e, l, c⟩ := s
  simp only at hk
  have hn := now_s ts k e l c sv hk hl
  have hf := failed_s ts k e l c sv
  have hF1 := fail_x b ts ⟨k, e, l, c⟩ sv hsv 60 ts[k]
  have hF2 := fail_x b ts ⟨k, e, l, c⟩ sv hsv 1 ts[k]
  simp only [tkA_get hk]
  unfold Tok.av at hn hF1 hF2 ⊢
  simp only [pc, PS.cells] at hF1 hF2 ⊢
  have hg : gTake ts k kind most = if ts[k].kind ≠ kind then .error (flt 60 ts[k]) else if most < ts[k].text.length then .error (flt 1 ts[k]) else .ok ts[k] := by simp only [gTake, tkA_get hk]
  have hg' := Lib.hid hg
  clear hg
  refine Spec_of Tryz.func62 rfl ?_
  simp only [Tryz.ntmps62, List.length_cons, List.length_nil, List.replicate_succ, List.replicate_zero, List.cons_append, List.nil_append, Nat.reduceAdd, Nat.reduceSub]
  (repeat' (first | with_reducible (first | refine awp_seq ?_ | refine awp_region ?_ | refine awp_ret ?_ | refine awp_skip ?_ | refine awpL_nil ?_ | refine thenA_normal ?_ | refine thenA_ret ?_) | (refine awp_cond _ rfl (fun h => ?_) (fun h => ?_) <;> ((try (simp only [whn] at h)); skip)) | ((apply awpL_evl2 rfl); (case h => ((first | (apply Evl_k 0 rfl; (exact Evl_mv _ rfl)) | (apply Evl_k 4 rfl; (exact Evl_nil _ rfl (by first | exact .inl ⟨_, rfl⟩ | fail))) | (apply Evl_k 5 rfl; (exact Evl_field_x _ _ _ _ _ _ rfl rfl HFld.out)) | (apply Evl_k 6 rfl; (exact Evl_load _ _ _ _ _ _ _ _ rfl rfl FBox.out HAgg.out (by first | exact Nat.le_of_ble_eq_true rfl | fail) (by first | exact Nat.le_of_ble_eq_true rfl | fail))) | (apply Evl_k 11 rfl; (first | exact Evl_callL 36 Tryz.f36 _ _ rfl rfl Tryz.func36 (by decide) rfl (by (repeat' (first | exact VwL.nil | (refine VwL.cons ?_ ?_) | exact Vw.box (List.Mem.tail _ (List.Mem.head _)) (VwL.refl _ _) | fail)); done) (hn) | exact Evl_callL 38 Tryz.f38 _ _ rfl rfl Tryz.func38 (by decide) rfl (by (repeat' (first | exact VwL.nil | (refine VwL.cons ?_ ?_) | exact Vw.box (List.Mem.tail _ (List.Mem.tail _ (List.Mem.head _))) (VwL.refl _ _) | fail)); done) (hf))) | (apply Evl_x; (case hs => (intro _ _ h; cases h)); (case hx => rfl); (case hrun => (intro w; simp [wtb, AV.val, go_sem]; (try go_bits); rfl)))))); (case hT => ((try simp (disch := omega) only [wtn, pc, List.append_eq, List.foldl_cons, List.foldl_nil, List.map_cons, List.map_nil, Nat.reduceAdd, Nat.reduceMul, Nat.reduceSub, ↓reduceIte, Nat.reduceEqDiff]); rfl))) | (refine awpL_cons rfl ?_; ((first | (refine Stp_k 11 rfl ?_; (first | (refine Stp_call 61 Tryz.f61 [_] [_, _] _ _ rfl rfl Tryz.func61 (by decide) rfl (List.perm_middle (l₁ := [_, _]) (l₂ := [])) (VwL.refl _ _) hF1 ?_; rintro _ _ ⟨rfl, rfl⟩) | (refine Stp_call 61 Tryz.f61 [_] [_, _] _ _ rfl rfl Tryz.func61 (by decide) rfl (List.perm_middle (l₁ := [_, _]) (l₂ := [])) (VwL.refl _ _) hF2 ?_; rintro _ _ ⟨rfl, rfl⟩))) | (refine Stp_k 14 rfl ?_; ((refine Stp_alloc _ _ rfl HZero.out rfl (fun b => ?_)))) | (refine Stp_k 16 rfl ?_; ((refine Stp_store _ _ _ _ _ _ _ rfl rfl FBox.out HSize.out (by first | rfl | fail) (by first | exact Nat.le_of_ble_eq_true rfl | fail) ?_)))); apply awpL_cong; (case hT => ((try simp (disch := omega) only [wtn, pc, List.append_eq, List.foldl_cons, List.foldl_nil, List.map_cons, List.map_nil, Nat.reduceAdd, Nat.reduceMul, Nat.reduceSub, ↓reduceIte, Nat.reduceEqDiff]); rfl)); (case hH => ((try simp (disch := omega) only [wtn, pc, List.append_eq, List.foldl_cons, List.foldl_nil, List.map_cons, List.map_nil, Nat.reduceAdd, Nat.reduceMul, Nat.reduceSub, ↓reduceIte, Nat.reduceEqDiff]); rfl)))) | fail))
  all_goals first
    | refine endA_ret _ _ (Res1 rfl (RV.cell 1 rfl rfl HAgg.out (by simp) (by simp)) (Weak.mk' [_, _] [_] (List.Perm.refl _) (VwHs.refl _ _) (VwL.refl _ _))) ?_
    | refine endA_ret _ _ (Res1 rfl (RV.cell 2 rfl rfl HAgg.out (by simp) (by simp)) (Weak.mk' [_, _] [_] (List.perm_middle (l₁ := [_, _]) (l₂ := [])).symm (VwHs.refl _ _) (VwL.refl _ _))) ?_
  all_goals refine ⟨rfl, ?_⟩
  all_goals
    by_cases ha : ts[k].kind = kind
    · by_cases hb : most < ts[k].text.length
      · have e := (hg'.out).trans ((if_neg (by simpa using ha)).trans (if_pos hb))
        rw [e]; clear hg' e
        simp_all [PS.upon, PS.on, PS.flt, PS.fail, flt]; done
      · have e := (hg'.out).trans ((if_neg (by simpa using ha)).trans (if_neg hb))
        rw [e]; clear hg' e
        simp_all [PS.upon, PS.on, PS.flt, PS.fail, flt]; done
    · have e := (hg'.out).trans (if_pos ha)
      rw [e]; clear hg' e
      simp_all [PS.upon, PS.on, PS.flt, PS.fail, flt]; done
theorem isP_gIs {ts : List Tok} {k : Nat} (hk : k < ts.length) (e : Int) (s : List UInt8) : isP ts k e 5 s = (e == 0 && gIs ts k s) := by
  simp only [isP, gIs, tkA_get hk, List.getElem?_eq_getElem hk]
set_option maxRecDepth 100000 in
set_option maxHeartbeats 8000000 in
theorem sign_x (b : Nat) (ts : List Tok) (s : PS) (sv : AV) (hsv : sv.one = true) (t : List UInt8) (hk : s.k < ts.length) (hl : ts.length ≤ 1000000) :
    Spec Tryz.prog 63 [.box b (s.cells ts sv)] [.x (.pointer (some ⟨b, 0, none⟩)), .x (.string (bs t))] (fun r H' => r = .x (.tuple #[]) ∧ H' = [.box b ((s.upon (gSign ts s.k t) 1).cells ts sv)]) := by
  obtain ⟨k, e, l, c⟩ := s
  simp only at hk
  have hn := now_s ts k e l c sv hk hl
  have hf := failed_s ts k e l c sv
  have hi := is_s ts k e l c sv 5 t hk hl
  have hF := fail_x b ts ⟨k, e, l, c⟩ sv hsv 60 ts[k]
  rw [isP_gIs hk] at hi
  unfold Tok.av at hn hF
  simp only [pc, PS.cells] at hF ⊢
  have hg : gSign ts k t = if gIs ts k t then .ok () else .error (flt 60 ts[k]) := by simp only [gSign, tkA_get hk]
  have hg' := Lib.hid hg
  clear hg
  generalize gIs ts k t = gi at hi hg'
  refine Spec_of Tryz.func63 rfl ?_
  simp only [Tryz.ntmps63, List.length_cons, List.length_nil, List.replicate_succ, List.replicate_zero, List.cons_append, List.nil_append, Nat.reduceAdd, Nat.reduceSub]
  (repeat' (first | with_reducible (first | refine awp_seq ?_ | refine awp_region ?_ | refine awp_skip ?_ | refine awpL_nil ?_ | refine thenA_normal ?_) | (refine awp_cond _ rfl (fun h => ?_) (fun h => ?_) <;> ((try (simp only [whn] at h)); skip)) | ((first | apply awpL_evl2 rfl | apply awpL_g2 _ _ rfl rfl rfl); (case h => ((try (intro (hp : (_ : Bool) = true); ((try simp only [hp, wte]); (try simp only [whn] at hp)))); (first | (apply Evl_k 0 rfl; (exact Evl_mv _ rfl)) | (apply Evl_k 1 rfl; (exact Evl_and _ _ _ _ _ rfl rfl rfl rfl)) | (apply Evl_k 4 rfl; (exact Evl_nil _ rfl (by first | exact .inl ⟨_, rfl⟩ | fail))) | (apply Evl_k 5 rfl; (exact Evl_field_x _ _ _ _ _ _ rfl rfl HFld.out)) | (apply Evl_k 6 rfl; (exact Evl_load _ _ _ _ _ _ _ _ rfl rfl FBox.out HAgg.out (by first | exact Nat.le_of_ble_eq_true rfl | fail) (by first | exact Nat.le_of_ble_eq_true rfl | fail))) | (apply Evl_k 11 rfl; (first | exact Evl_callL 36 Tryz.f36 _ _ rfl rfl Tryz.func36 (by decide) rfl (by (repeat' (first | exact VwL.nil | (refine VwL.cons ?_ ?_) | exact Vw.box (List.Mem.head _) (VwL.refl _ _) | fail)); done) (hn) | exact Evl_callL 38 Tryz.f38 _ _ rfl rfl Tryz.func38 (by decide) rfl (by (repeat' (first | exact VwL.nil | (refine VwL.cons ?_ ?_) | exact Vw.box (List.Mem.head _) (VwL.refl _ _) | fail)); done) (failed_s ts _ _ _ _ sv) | exact Evl_callL 60 Tryz.f60 _ _ rfl rfl Tryz.func60 (by decide) rfl (by (repeat' (first | exact VwL.nil | (refine VwL.cons ?_ ?_) | exact Vw.refl _ | exact Vw.box (List.Mem.head _) (VwL.refl _ _) | fail)); done) (hi))) | (apply Evl_x; (case hs => (intro _ _ h; cases h)); (case hx => rfl); (case hrun => (intro w; simp [wtb, AV.val, go_sem]; (try go_bits); rfl)))))); (case hT => ((try simp (disch := omega) only [wtn, pc, List.append_eq, List.foldl_cons, List.foldl_nil, List.map_cons, List.map_nil, Nat.reduceAdd, Nat.reduceMul, Nat.reduceSub, ↓reduceIte, Nat.reduceEqDiff]); rfl))) | (refine awpL_cons rfl ?_; ((first | (refine Stp_k 11 rfl ?_; ((refine Stp_call 61 Tryz.f61 [_] [] _ _ rfl rfl Tryz.func61 (by decide) rfl (List.Perm.refl _) (VwL.refl _ _) hF ?_; rintro _ _ ⟨rfl, rfl⟩))) | (refine Stp_k 16 rfl ?_; ((refine Stp_store _ _ _ _ _ _ _ rfl rfl FBox.out HSize.out (by first | rfl | fail) (by first | exact Nat.le_of_ble_eq_true rfl | fail) ?_)))); apply awpL_cong; (case hT => ((try simp (disch := omega) only [wtn, pc, List.append_eq, List.foldl_cons, List.foldl_nil, List.map_cons, List.map_nil, Nat.reduceAdd, Nat.reduceMul, Nat.reduceSub, ↓reduceIte, Nat.reduceEqDiff]); rfl)); (case hH => ((try simp (disch := omega) only [wtn, pc, List.append_eq, List.foldl_cons, List.foldl_nil, List.map_cons, List.map_nil, Nat.reduceAdd, Nat.reduceMul, Nat.reduceSub, ↓reduceIte, Nat.reduceEqDiff]); rfl)))) | fail))
  all_goals
    refine endA_normal _ _ (Res0 rfl (Weak.mk' [] [_] (List.Perm.refl _) (VwHs.refl _ _) VwL.nil)) ?_
    refine ⟨rfl, ?_⟩
    rw [hg'.out]
    cases gi <;> simp_all [PS.upon, PS.on, PS.flt, PS.fail, flt]
theorem numv_snoc (l : List UInt8) (c : UInt8) : numv (l ++ [c]) = 10 * numv l + (c.toNat - 48) := by simp [numv]
def Digits (l : List UInt8) : Prop := ∀ c ∈ l, 48 ≤ c.toNat ∧ c.toNat ≤ 57
theorem numv_lt (l : List UInt8) (hd : Digits l) : ∀ n, n ≤ l.length → 0 ≤ numv (l.take n) ∧ numv (l.take n) < ((10 ^ n : Nat) : Int) := by
  intro n
  induction n with
  | zero => intro _; simp [numv]
  | succ n ih =>
    intro hn
    have h1 := ih (by omega)
    have h2 := hd l[n] (List.getElem_mem (by omega))
    rw [take_snoc' l n (by omega), numv_snoc, Nat.pow_succ]
    generalize 10 ^ n = p at h1 ⊢
    omega
def NumTok (ts : List Tok) : Prop := ∀ t ∈ ts, t.kind = 2 → t.text.length ≤ 18 ∧ Digits t.text
theorem gNum_eq {ts : List Tok} (hN : NumTok ts) {k : Nat} (hk : k < ts.length) : gTake ts k 2 8192 = gTake ts k 2 18 := by
  have h := hN ts[k] (List.getElem_mem hk)
  simp only [gTake, tkA_get hk]
  by_cases h2 : ts[k].kind = 2
  · have h3 := (h h2).1
    rw [if_neg (fun h => h h2), if_neg (by omega), if_neg (fun h => h h2), if_neg (by omega)]
  · rw [if_pos h2, if_pos h2]
set_option maxRecDepth 100000 in
set_option maxHeartbeats 8000000 in
theorem number_x (b : Nat) (ts : List Tok) (s : PS) (sv : AV) (hsv : sv.one = true) (hk : s.k < ts.length) (hl : ts.length ≤ 1000000) (hN : NumTok ts) :
    Spec Tryz.prog 100 [.box b (s.cells ts sv)] [.x (.pointer (some ⟨b, 0, none⟩))] (fun r H' => r = .x (.int .u64 (if (s.upon (gTake ts s.k 2 18) 1).e = 0 then numv (tkA ts s.k).text else 0)) ∧ H' = [.box b ((s.upon (gTake ts s.k 2 18) 1).cells ts sv)]) := by
  have hT := take_x b ts s sv hsv 2 18 hk hl
  obtain ⟨k, e, l, c⟩ := s
  simp only at hk
  simp only [tkA_get hk] at hT ⊢
  have hTk : (({ k := k, e := e, l := l, c := c } : PS).upon (gTake ts k 2 18) 1).e = 0 → ts[k].text.length ≤ 18 ∧ Digits ts[k].text := by
    intro h
    have h2 := hN ts[k] (List.getElem_mem hk)
    simp only [gTake, tkA_get hk] at h
    by_cases h3 : ts[k].kind = 2
    · exact h2 h3
    · exfalso
      rw [if_pos h3] at h
      simp only [PS.upon, PS.flt, flt] at h
      split at h <;> simp_all
  generalize ({ k := k, e := e, l := l, c := c } : PS).upon (gTake ts k 2 18) 1 = s1 at hT hTk
  obtain ⟨k1, e1, l1, c1⟩ := s1
  simp only [PS.cells] at hT hTk ⊢
  have hTk' := Lib.hid hTk
  clear hTk
  clear hN
  refine Spec_of Tryz.func100 rfl ?_
  simp only [Tryz.ntmps100, List.length_cons, List.length_nil, List.replicate_succ, List.replicate_zero, List.cons_append, List.nil_append, Nat.reduceAdd, Nat.reduceSub]
  (repeat' (first | with_reducible (first | refine awp_seq ?_ | refine awp_region ?_ | refine awp_block ?_ | refine awp_ret ?_ | refine awp_skip ?_ | refine awpL_nil ?_ | refine thenA_normal ?_ | refine thenA_ret ?_) | (refine awp_cond _ rfl (fun h => ?_) (fun h => ?_) <;> ((try (simp only [whn] at h)); skip)) | ((apply awpL_evl2 rfl); (case h => ((first | (apply Evl_k 0 rfl; (first | exact Evl_mv _ rfl | exact Evl_as _ rfl)) | (apply Evl_k 11 rfl; (exact Evl_callL 38 Tryz.f38 _ _ rfl rfl Tryz.func38 (by decide) rfl (by (repeat' (first | exact VwL.nil | (refine VwL.cons ?_ ?_) | exact Vw.box (List.Mem.tail _ (List.Mem.head _)) (VwL.refl _ _) | fail)); done) (failed_s ts _ _ _ _ sv)))))); (case hT => ((try simp (disch := omega) only [wtn, pc, Tok.av, List.append_eq, List.foldl_cons, List.foldl_nil, List.map_cons, List.map_nil, Nat.reduceAdd, Nat.reduceMul, Nat.reduceSub, ↓reduceIte, Nat.reduceEqDiff]); rfl))) | (refine awpL_cons rfl ?_; ((first | (refine Stp_k 11 rfl ?_; ((refine Stp_call 62 Tryz.f62 [_] _ _ _ rfl rfl Tryz.func62 (by decide) rfl (List.Perm.refl _) (VwL.refl _ _) (hT) ?_; rintro _ _ ⟨rfl, rfl⟩))) | (refine Stp_k 14 rfl ?_; ((refine Stp_alloc _ _ rfl HZero.out rfl (fun b => ?_)))) | (refine Stp_k 16 rfl ?_; ((refine Stp_store _ _ _ _ _ _ _ rfl rfl FBox.out HSize.out (by first | rfl | fail) (by first | exact Nat.le_of_ble_eq_true rfl | fail) ?_)))); apply awpL_cong; (case hT => ((try simp (disch := omega) only [wtn, pc, Tok.av, List.append_eq, List.foldl_cons, List.foldl_nil, List.map_cons, List.map_nil, Nat.reduceAdd, Nat.reduceMul, Nat.reduceSub, ↓reduceIte, Nat.reduceEqDiff]); rfl)); (case hH => ((try simp (disch := omega) only [wtn, pc, Tok.av, List.append_eq, List.foldl_cons, List.foldl_nil, List.map_cons, List.map_nil, Nat.reduceAdd, Nat.reduceMul, Nat.reduceSub, ↓reduceIte, Nat.reduceEqDiff]); rfl)))) | fail))
  · refine endA_ret _ _ (Res1 rfl (RV.tmp _) (Weak.mk' [_] [_] (List.Perm.refl _) (VwHs.refl _ _) (VwL.refl _ _))) ?_
    exact ⟨by rw [if_neg h]; rfl, rfl⟩
  obtain ⟨hl18, hdig⟩ := hTk'.out h
  have hdig' := Lib.hid hdig
  clear hdig hTk'
  refine awp_loopS (S := Nat) (fun i => frm 27 [(3, .x (.pointer (some ⟨b, 0, none⟩))), (4, .x (.int .u64 (numv (ts[k].text.take i)))), (5, .x (.int .i64 i))]) (fun _ => [.box b [.x (.int .i64 ts[k].kind), .x (.string (bs ts[k].text)), .x (.int .i64 (ts[k].line : Nat)), .x (.int .i64 (ts[k].col : Nat))], .box _ (pc ts k1 e1 l1 c1 sv)]) (fun i => i ≤ ts[k].text.length) (fun i => ts[k].text.length - i) 0 (Weak.mk' [] _ (List.Perm.refl _) (VwHs.refl _ _) (by (repeat' (first | exact VwL.nil | (refine VwL.cons ?_ ?_) | exact Vw.refl _ | exact Vw.top _ | fail)))) (Nat.zero_le _) fun i hs => ?_
  have hv1 := numv_lt ts[k].text hdig'.out i hs
  have hpw := Nat.pow_le_pow_right (n := 10) (by decide) (show i ≤ 18 by omega)
  generalize 10 ^ i = p at hv1 hpw
  have hv2 : numv (ts[k].text.take i) < 1000000000000000000 := by omega
  have hv3 := hv1.1
  clear hv1 hpw
  generalize hnv : numv (ts[k].text.take i) = nv at hv2 hv3 ⊢
  have hnv' := Lib.hid hnv
  clear hnv
  have hT' := Lib.hid hT
  clear hT
  simp only [frm, List.replicate_succ, List.replicate_zero, List.foldl_cons, List.foldl_nil, List.set_cons_zero, List.set_cons_succ]
  (repeat' (first | with_reducible (first | refine awp_seq ?_ | refine awp_region ?_ | refine awp_block ?_ | refine awp_ret ?_ | refine awp_skip ?_ | refine awp_exit ?_ | refine awpL_nil ?_ | refine thenA_normal ?_ | refine thenA_exit ?_ | refine inBlockA_eq ?_ | refine inBlockA_normal ?_) | (refine awp_cond _ rfl (fun h => ?_) (fun h => ?_) <;> ((try (simp only [whn] at h)); skip)) | ((apply awpL_evl2 rfl); (case h => ((first | (apply Evl_k 0 rfl; (first | exact Evl_mv _ rfl | exact Evl_as _ rfl)) | (apply Evl_k 5 rfl; (exact Evl_field_x _ _ _ _ _ _ rfl rfl HFld.out)) | (apply Evl_k 6 rfl; (exact Evl_load _ _ _ _ _ _ _ _ rfl rfl FBox.out HAgg.out (by first | exact Nat.le_of_ble_eq_true rfl | fail) (by first | exact Nat.le_of_ble_eq_true rfl | fail))) | (apply Evl_k 8 rfl; (exact Evl_index_str _ _ _ _ _ _ _ rfl rfl rfl (by kernel_rfl) rfl (by omega))) | (apply Evl_x; (case hs => (intro _ _ h; cases h)); (case hx => rfl); (case hrun => (intro w; simp [wtb, AV.val, go_sem]; (try go_bits); rfl)))))); (case hT => ((try simp only [wtn]); rfl))) | fail))
  · have hd := hdig'.out ts[k].text[i] (List.getElem_mem h)
    have e : numv (ts[k].text.take (i + 1)) = 10 * nv + (((ts[k].text[i]?.getD 0).toNat : Int) - 48) % 256 := by
      rw [take_snoc' _ _ h, numv_snoc, hnv'.out, List.getElem?_eq_getElem h]
      simp only [Option.getD_some]
      omega
    refine ⟨i + 1, by omega, by omega, ?_⟩
    rw [e]
    exact (Weak.mk' [] _ (List.Perm.refl _) (VwHs.refl _ _) (by (repeat' (first | exact VwL.nil | (refine VwL.cons ?_ ?_) | exact Vw.refl _ | exact Vw.top _ | fail))))
  · refine endA_ret _ _ (Res1 rfl (RV.tmp _) (Weak.mk' [_] [_] (List.Perm.refl _) (VwHs.refl _ _) (VwL.refl _ _))) ?_
    have e := hnv'.out
    rw [List.take_of_length_le (by omega)] at e
    exact ⟨by rw [if_pos (by assumption), e]; rfl, rfl⟩
end Go.Proofs.YtkhhlmonhapmaaaGreatDoor
