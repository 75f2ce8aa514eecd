import Derived.Test.YtkhhlmonhapmaaaGreatDoorW18
import Derived.Test.YtkhhlmonhapmaaaGreatDoorW20
/- The reference's parser, exact: a whole text. -/
set_option linter.unusedSimpArgs false
set_option linter.unusedVariables false
namespace Go.Proofs.YtkhhlmonhapmaaaGreatDoor
open Go.RowKit
theorem jfa_app (l m : List JF) : jfa (l ++ m) = jfa l ++ jfa m := by simp [jfa]
theorem lexGo_all {P : Tok → Prop} (hE : ∀ p q : Nat, P ⟨6, [], p, q⟩) (hO : ∀ (l : List UInt8) a t m, one l = .ok (a, t, m) → ∀ p q : Nat, P ⟨a, t, p, q⟩) : ∀ (n : Nat) (p : Nat × Nat) (i : Nat) (l : List UInt8) (ts : List Tok), l.length ≤ n → lexGo p i l = .ok ts → ∀ t ∈ ts, P t
  | n, p, i, l, ts, hn, h => by
    cases hd : l.drop (skp l) with
    | nil =>
      rw [lexGo_end p i l hd] at h; cases h
      simpa using hE _ _
    | cons c r =>
      have hlen := congrArg List.length hd
      simp only [List.length_drop, List.length_cons] at hlen
      cases h1 : one (c :: r) with
      | error e => rw [lexGo_bad p i l c r e hd h1] at h; cases h
      | ok x =>
        by_cases hi : 2000 ≤ i
        · rw [lexGo_full p i l c r x hd h1 hi] at h; cases h
        · obtain ⟨a, t, m⟩ := x
          obtain ⟨g1, g2, g3, g4⟩ := one_le h1
          simp only at g1 g2 g3 g4
          rw [lexGo_one p i l c r a t m hd h1 g1 (by omega)] at h
          cases hr : lexGo (plc p (l.take (skp l + m))) (i + 1) ((c :: r).drop m) with
          | error e => rw [hr] at h; cases h
          | ok y =>
            rw [hr] at h
            simp only [Except.map] at h
            cases h
            cases n with
            | zero => omega
            | succ n =>
              have ht := lexGo_all hE hO n _ _ _ y (by simp only [List.length_drop, List.length_cons]; omega) hr
              intro t ht2
              rcases List.mem_cons.1 ht2 with rfl | ht2
              · exact hO _ _ _ _ h1 _ _
              · exact ht t ht2
theorem spn_take (p : UInt8 → Bool) (l : List UInt8) : l.take (spn p l) = l.takeWhile p := (List.prefix_iff_eq_take.1 (List.takeWhile_prefix p)).symm
theorem one_dig {l : List UInt8} {a : Int} {t : List UInt8} {m : Nat} (h : one l = .ok (a, t, m)) : a = 2 → t.length ≤ 18 ∧ Digits t := by
  intro ha
  subst ha
  cases l with
  | nil => simp [one] at h
  | cons c r =>
    simp only [one] at h
    split at h
    · cases h
    · split at h
      · split at h
        · cases h
        · rename_i h2
          cases h
          rw [spn_take]
          refine ⟨?_, fun x hx => ?_⟩
          · have : ((c :: r).takeWhile isDig).length = spn isDig (c :: r) := rfl
            omega
          · have := List.all_takeWhile (p := isDig) (l := c :: r)
            have hx' := (List.all_eq_true.1 this) x hx
            simpa [isDig] using hx'
      · split at h
        · split at h <;> cases h
        · split at h
          · split at h <;> cases h
          · split at h <;> cases h
theorem lex_facts2 (l : List UInt8) (ts : List Tok) (h : lex l = .ok ts) : NumTok ts ∧ Short ts := by
  have hf := (lex_facts l).2 ts h
  unfold lex at h
  split at h
  · cases h
  · rename_i hl
    refine ⟨lexGo_all (P := fun t => t.kind = 2 → t.text.length ≤ 18 ∧ Digits t.text) (fun p q h => by simp at h) (fun l a t m h p q => one_dig h) l.length (1, 1) 0 l ts (Nat.le_refl _) h, ?_⟩
    obtain ⟨qs, e, rfl, he, hq, ht⟩ := lexGo_ok l.length (1, 1) 0 l ts (Nat.le_refl _) h
    exact fun t h => Nat.le_trans (ht t h) (by omega)
def jres (x : Except Flt (List JF)) : AV := match x with
  | .ok js => .tup [.sq js.length (jfa js), .x (.agg #[.int .i64 0, .int .i64 0, .int .i64 0])]
  | .error f => .tup [.sq 0 [], f.av]
def JOk (x : Except Flt (List JF)) : Prop := match x with
  | .ok js => JBs js
  | .error f => f.code ≠ 0
set_option maxRecDepth 100000 in
set_option maxHeartbeats 8000000 in
theorem parse_gerr (s : List UInt8) (hl : s.length ≤ 1000000) (f : Flt) (hx : lex s = .error f) : Spec Tryz.prog 15 [] [.x (.string (bs s))] (fun r H' => r = jres (gParse s) ∧ H' = [] ∧ JOk (gParse s)) := by
  have hall := all_s s hl
  have hf0 := (lex_facts s).1 f hx
  have hg : gParse s = .error f := by simp only [gParse, hx]
  rw [hg]
  rw [hx] at hall
  simp only [toksOf, fltOf, Flt.av] at hall
  clear hx hg
  refine Spec_of Tryz.func15 rfl ?_
  simp only [Tryz.ntmps15, List.length_cons, List.length_nil, List.replicate_succ, List.replicate_zero, List.cons_append, List.nil_append, Nat.reduceAdd, Nat.reduceSub]
  (repeat' (first | with_reducible (first | refine awp_seq ?_ | refine awp_region ?_ | refine awpL_nil ?_ | refine thenA_normal ?_) | (refine awp_cond _ rfl (fun h => ?_) (fun h => ?_) <;> ((try (simp only [whn] at h)); first | (exfalso; omega; done) | skip)) | ((apply awpL_evl2 rfl); (case h => ((first | (apply Evl_k 0 rfl; (first | exact Evl_mv _ rfl | exact Evl_as _ rfl)) | (apply Evl_k 2 rfl; (exact Evl_extract _ _ _ _ rfl rfl rfl)) | (apply Evl_k 5 rfl; (exact Evl_field_x _ _ _ _ _ _ rfl rfl HFld.out)) | (apply Evl_k 6 rfl; (exact Evl_load _ _ _ _ _ _ _ _ rfl rfl FBox.out HAgg.out (by first | exact Nat.le_of_ble_eq_true rfl | fail) (by first | exact Nat.le_of_ble_eq_true rfl | fail))) | (apply Evl_k 11 rfl; (exact Evl_call 35 Tryz.f35 _ _ rfl rfl Tryz.func35 (by decide) rfl (VwL.refl _ _) (hall))) | (apply Evl_x; (case hs => (intro _ _ h; cases h)); (case hx => rfl); (case hrun => (intro w; simp [wtb, AV.val, go_sem]; skip; rfl)))))); (case hT => ((try simp only [wtn]); rfl))) | (refine awpL_cons rfl ?_; ((first | (refine Stp_k 14 rfl ?_; ((refine Stp_alloc _ _ rfl HZero.out rfl (fun b => ?_)))) | (refine Stp_k 16 rfl ?_; ((refine Stp_store _ _ _ _ _ _ _ rfl rfl FBox.out HSize.out (by first | rfl | fail) (by first | exact Nat.le_of_ble_eq_true rfl | fail) ?_)))); apply awpL_cong; (case hT => ((try simp only [wtn]); rfl)); (case hH => ((try simp only [wtn, Nat.reduceAdd]); rfl)))) | fail))
  refine awpP_all mixed [2] ?_
  (first | refine awpP_load 0 rfl rfl (by kernel_rfl) (by intro c T H hp; simp [thenA, inBlockA, jumpA, endA] at hp) _ _ _ _ _ _ _ _ rfl rfl FBox.out HAgg.out (by first | exact Nat.le_of_ble_eq_true rfl | fail) (by first | exact Nat.le_of_ble_eq_true rfl | fail) ?_ | fail); (apply awpP_cong; (case hT => ((try simp only [wtn, ↓reduceIte]); rfl)); (case hH => rfl)); (first | (apply awpP_take 1 rfl rfl (by kernel_rfl) (by intro c T H hp; simp [thenA, inBlockA, jumpA, endA] at hp); (case h => (exact WInd_as _ rfl))) | fail); (apply awpP_cong; (case hT => ((try simp only [wtn]); rfl)); (case hH => rfl))
  refine awpP_rest (by decide +kernel) ?_
  refine awpA_cong rfl (by simp only [List.cons_append, List.nil_append]; rfl) ?_
  (refine awpA_1 2 (by decide +kernel) rfl rfl ?_; (first | (((refine Stp_k 16 rfl ?_; ((refine Stp_store _ _ _ _ _ _ _ rfl rfl FBox.out HSize.out (by first | rfl | fail) (by first | exact Nat.le_of_ble_eq_true rfl | fail) ?_)))); apply awpA_cong; (case hT => ((try simp only [wtn]); rfl)); (case hH => ((try simp only [wtn, Nat.reduceAdd]); rfl))) | fail))
  refine awpA_done (by decide +kernel) ?_
  (repeat' (first | with_reducible (first | refine awp_ret ?_ | refine thenA_normal ?_ | refine thenA_ret ?_) | fail))
  refine endA_ret _ _ (Res2 rfl (RV.tmp _) (RV.cell 1 rfl rfl HAgg.out (by simp) (by simp)) (Weak.mk' [_, _] [] (List.Perm.refl _) VwHs.nil (VwL.cons Vw.nil (VwL.refl _ _)))) ?_
  exact ⟨rfl, rfl, hf0⟩
theorem gJobs_bad {ts : List Tok} {k : Nat} {out : List JF} {f : Flt} (h : (tkA ts k).kind ≠ 6) (h2 : gJob ts k (decide (32 ≤ out.length)) = .error f) : gJobs ts k out = .error f := by rw [gJobs, if_neg h, h2]
theorem gJobs_step {ts : List Tok} {k : Nat} {out : List JF} {x : JF × Nat} (h : (tkA ts k).kind ≠ 6) (h2 : gJob ts k (decide (32 ≤ out.length)) = .ok x) (h3 : k < x.2 ∧ k < ts.length) : gJobs ts k out = gJobs ts x.2 (out ++ [x.1]) := by rw [gJobs, if_neg h, h2]; simp only; rw [dif_pos h3]
theorem gJobs_end {ts : List Tok} {k : Nat} {out : List JF} (h : (tkA ts k).kind = 6) : gJobs ts k out = .ok out := by rw [gJobs, if_pos h]
theorem Got.no {α : Type} {ts : List Tok} {s s' : PS} {x : Except Flt (α × Nat)} {v : α} (h : Got ts s x s' v) (he : s.e = 0) (hb : s'.e ≠ 0) : ∃ f : Flt, x = .error f ∧ f.code ≠ 0 ∧ s'.e = f.code ∧ s'.l = f.line ∧ s'.c = f.col := by
  have h' := h.2.2.2 he
  cases x with
  | ok p => exfalso; rw [h'.2] at hb; exact hb rfl
  | error f => exact ⟨f, rfl, h'⟩
set_option maxRecDepth 100000 in
set_option maxHeartbeats 8000000 in
theorem parse_gok (s : List UInt8) (hl : s.length ≤ 1000000) (ts : List Tok) (hx : lex s = .ok ts) : Spec Tryz.prog 15 [] [.x (.string (bs s))] (fun r H' => r = jres (gParse s) ∧ H' = [] ∧ JOk (gParse s)) := by
  have hall := all_s s hl
  obtain ⟨hp, hn, hv, -, hle⟩ := (lex_facts s).2 ts hx
  obtain ⟨hN, hS⟩ := lex_facts2 s ts hx
  have hN' := Lib.hid hN
  have hS' := Lib.hid hS
  clear hN hS
  have hg : gParse s = gJobs ts 0 [] := by simp only [gParse, hx]
  rw [hg]
  rw [hx] at hall
  simp only [toksOf, fltOf, Flt.av] at hall
  clear hx hg
  refine Spec_of Tryz.func15 rfl ?_
  simp only [Tryz.ntmps15, List.length_cons, List.length_nil, List.replicate_succ, List.replicate_zero, List.cons_append, List.nil_append, Nat.reduceAdd, Nat.reduceSub]
  (repeat' (first | with_reducible (first | refine awp_seq ?_ | refine awp_region ?_ | refine awp_block ?_ | refine awp_skip ?_ | refine awpL_nil ?_ | refine thenA_normal ?_) | (refine awp_cond _ rfl (fun h => ?_) (fun h => ?_) <;> first | (exact absurd h (by decide)) | ((try (simp only [] at h)); skip)) | ((apply awpL_evl2 rfl); (case h => ((first | (apply Evl_k 0 rfl; (first | exact Evl_mv _ rfl | exact Evl_as _ rfl)) | (apply Evl_k 2 rfl; (exact Evl_extract _ _ _ _ rfl rfl rfl)) | (apply Evl_k 5 rfl; (exact Evl_field_x _ _ _ _ _ _ rfl rfl HFld.out)) | (apply Evl_k 6 rfl; (exact Evl_load _ _ _ _ _ _ _ _ rfl rfl FBox.out HAgg.out (by first | exact Nat.le_of_ble_eq_true rfl | fail) (by first | exact Nat.le_of_ble_eq_true rfl | fail))) | (apply Evl_k 10 rfl; (exact Evl_build _ _ _ _ _ rfl HPl.out (by first | rfl | fail) rfl)) | (apply Evl_k 11 rfl; (exact Evl_call 35 Tryz.f35 _ _ rfl rfl Tryz.func35 (by decide) rfl (VwL.refl _ _) (hall))) | (apply Evl_x; (case hs => (intro _ _ h; cases h)); (case hx => rfl); (case hrun => (intro w; simp [wtb, AV.val, go_sem]; skip; rfl)))))); (case hT => ((try simp only [wtn, ↓reduceIte]); rfl))) | (refine awpL_cons rfl ?_; ((first | (refine Stp_k 14 rfl ?_; ((refine Stp_alloc _ _ rfl HZero.out rfl (fun b => ?_)))) | (refine Stp_k 15 rfl ?_; ((refine Stp_box _ _ rfl (by first | rfl | fail) (fun b => ?_)))) | (refine Stp_k 16 rfl ?_; ((refine Stp_store _ _ _ _ _ _ _ rfl rfl FBox.out HSize.out (by first | rfl | fail) (by first | exact Nat.le_of_ble_eq_true rfl | fail) ?_)))); apply awpL_cong; (case hT => ((try simp only [wtn]); rfl)); (case hH => ((try simp only [wtn, Nat.reduceAdd]); rfl)))) | fail))
  rename_i fb xb
  obtain ⟨pb, rfl⟩ : ∃ x, x = b := ⟨b, rfl⟩
  refine awp_nilrow 51 15 ?_
  apply awp_loopS (S := Nat × Int × Int × Int × AV × List JF × Option Addr × Nat) (fun s => frm 41 [(3, .x (.pointer (some ⟨fb, 0, none⟩))), (6, .x (.pointer (some ⟨pb, 0, none⟩))), (7, .x (.slice s.2.2.2.2.2.2.1 s.2.2.2.2.2.1.length s.2.2.2.2.2.2.2))])
    (fun s => [.box pb (pc ts s.1 s.2.1 s.2.2.1 s.2.2.2.1 s.2.2.2.2.1), .row s.2.2.2.2.2.2.1 s.2.2.2.2.2.1.length s.2.2.2.2.2.2.2 51 15 (jfa s.2.2.2.2.2.1), .box fb [.x (.int .i64 0), .x (.int .i64 0), .x (.int .i64 0)]])
    (fun s => s.1 < ts.length ∧ s.2.1 = 0 ∧ s.2.2.2.2.1.one = true ∧ s.2.2.2.2.2.1.length ≤ s.1 ∧ (∀ j ∈ s.2.2.2.2.2.1, JB j ts.length) ∧ gJobs ts s.1 s.2.2.2.2.2.1 = gJobs ts 0 []) (fun s => ts.length - s.1) (0, 0, 0, 0, .x (.slice none 0 0), [], none, 0)
  case h0 => exact Weak.mk' [_] [.box pb _, .row none 0 0 _ _ _, .box fb _] (List.Perm.trans (l₂ := [.box pb _, .row none 0 0 _ _ _, .box fb _] ++ [_]) (by (repeat' (first | exact List.Perm.refl _ | refine List.Perm.cons _ ?_ | refine (List.perm_middle (l₁ := [_])).trans (List.Perm.cons _ ?_) | fail))) List.perm_append_comm) (VwHs.refl _ _) (by (repeat' (first | exact VwL.nil | (refine VwL.cons ?_ ?_) | exact Vw.refl _ | exact Vw.top _ | fail)))
  case hi => exact ⟨hp, rfl, rfl, Nat.zero_le _, by simp, rfl⟩
  rintro ⟨kk, ee, ll, cc, sv, js, ad, cap⟩ ⟨g1, rfl, g3, g4, g5, g6⟩
  simp only at g1 g3 g4 g5 g6
  have g5' := Lib.hid g5
  have g6' := Lib.hid g6
  clear g5 g6
  simp only [frm, List.replicate_succ, List.replicate_zero, List.foldl_cons, List.foldl_nil, List.set_cons_zero, List.set_cons_succ]
  (repeat' (first | with_reducible (first | refine awp_seq ?_ | refine awp_region ?_ | refine awp_block ?_ | refine awp_ret ?_ | refine awp_skip ?_ | refine awp_exit ?_ | refine awpL_nil ?_ | refine thenA_normal ?_ | refine thenA_exit ?_ | refine inBlockA_eq ?_ | refine inBlockA_normal ?_) | (refine awp_cond _ rfl (fun h => ?_) (fun h => ?_) <;> ((try (simp only [whn] at h)); skip)) | ((apply awpL_evl2 rfl); (case h => ((first | (apply Evl_k 0 rfl; (first | exact Evl_mv _ rfl | exact Evl_as _ rfl)) | (apply Evl_k 6 rfl; (exact Evl_load _ _ _ _ _ _ _ _ rfl rfl FBox.out HAgg.out (by first | exact Nat.le_of_ble_eq_true rfl | fail) (by first | exact Nat.le_of_ble_eq_true rfl | fail))) | (apply Evl_k 10 rfl; (exact Evl_build _ _ _ _ _ rfl HPl.out (by first | rfl | fail) rfl)) | (apply Evl_k 11 rfl; (first | exact Evl_callL 36 Tryz.f36 _ _ rfl rfl Tryz.func36 (by decide) rfl (by (repeat' (first | exact VwL.nil | (refine VwL.cons ?_ ?_) | exact Vw.box (List.Mem.head _) (VwL.refl _ _) | fail)); done) (now_s ts kk _ _ _ _ g1 (by omega)) | exact Evl_callL 38 Tryz.f38 _ _ rfl rfl Tryz.func38 (by decide) rfl (by (repeat' (first | exact VwL.nil | (refine VwL.cons ?_ ?_) | exact Vw.box (List.Mem.tail _ (List.Mem.head _)) (VwL.refl _ _) | fail)); done) (failed_s ts _ _ _ _ _))) | (apply Evl_k 12 rfl; (exact Evl_fvx _ _ _ _ _ _ _ rfl rfl HFv.out (by first | (simp; done) | fail) (by first | (simp; done) | fail))) | (apply Evl_x; (case hs => (intro _ _ h; cases h)); (case hx => rfl); (case hrun => (intro w; simp [wtb, AV.val, go_sem]; skip; rfl)))))); (case hT => ((try simp (disch := omega) only [wtn, pc, Tok.av, JF.cells, List.append_eq, List.foldl_cons, List.foldl_nil, List.map_cons, List.map_nil, Nat.reduceAdd, Nat.reduceMul, Nat.reduceSub, ↓reduceIte, Nat.reduceEqDiff]); rfl))) | (refine awpL_cons rfl ?_; ((first | (refine Stp_k 11 rfl ?_; ((refine Stp_call 37 Tryz.f37 [_] _ _ _ rfl rfl Tryz.func37 (by decide) rfl (List.Perm.refl _) (VwL.refl _ _) (rjob_g _ ts kk _ _ sv g3 js.length g1 (by omega) hv hN'.out hS'.out) ?_; rintro _ _ ⟨j7, k7, e7, l7, c7, sv7, rfl, rfl, hsv7, q7, g7, w4, w5⟩))) | (refine Stp_k 13 rfl ?_; ((refine Stp_append _ _ _ _ _ _ _ _ _ _ _ _ _ _ rfl rfl FRow.out (Src.row _ rfl FRow.out) HElem.out (by first | rfl | fail) (fits _ _ (by omega) (by decide)) (fun ad cap => ?_)))) | (refine Stp_k 14 rfl ?_; ((refine Stp_alloc _ _ rfl HZero.out rfl (fun b => ?_)))) | (refine Stp_k 16 rfl ?_; ((refine Stp_store _ _ _ _ _ _ _ rfl rfl FBox.out HSize.out (by first | rfl | fail) (by first | exact Nat.le_of_ble_eq_true rfl | fail) ?_))) | (refine Stp_k 17 rfl ?_; ((refine Stp_buildSlice _ _ _ _ _ _ _ _ rfl HElem.out (by first | rfl | fail) rfl (by decide) rfl (fun b => ?_))))); apply awpL_cong; (case hT => ((try simp (disch := omega) only [wtn, pc, Tok.av, JF.cells, List.append_eq, List.foldl_cons, List.foldl_nil, List.map_cons, List.map_nil, Nat.reduceAdd, Nat.reduceMul, Nat.reduceSub, ↓reduceIte, Nat.reduceEqDiff]); rfl)); (case hH => ((try simp (disch := omega) only [wtn, pc, Tok.av, JF.cells, List.append_eq, List.foldl_cons, List.foldl_nil, List.map_cons, List.map_nil, Nat.reduceAdd, Nat.reduceMul, Nat.reduceSub, ↓reduceIte, Nat.reduceEqDiff]); rfl)))) | fail))
  · have hk6 : ts[kk].kind ≠ 6 := by assumption
    obtain ⟨f, f1, f2, f3, f4, f5⟩ := g7.no rfl (by assumption)
    simp only at f3 f4 f5
    have hg : gJobs ts 0 [] = .error f := g6'.out.symm.trans (gJobs_bad (by rw [tkA_get g1]; exact hk6) f1)
    rw [hg]
    clear g6'
    refine awpP_all mixed [5] ?_
    (first | (apply awpP_take 0 rfl rfl (by kernel_rfl) (by intro c T H hp; simp [thenA, inBlockA, jumpA, endA] at hp); (case h => (exact WInd_mv _ rfl))) | fail); (apply awpP_cong; (case hT => ((try simp only [wtn]); rfl)); (case hH => rfl)); (first | (apply awpP_take 1 rfl rfl (by kernel_rfl) (by intro c T H hp; simp [thenA, inBlockA, jumpA, endA] at hp); (case h => (exact WInd_nil _ _ _ rfl rfl))) | fail); (apply awpP_cong; (case hT => ((try simp only [wtn]); rfl)); (case hH => rfl)); (first | (apply awpP_take 2 rfl rfl (by kernel_rfl) (by intro c T H hp; simp [thenA, inBlockA, jumpA, endA] at hp); (case h => (exact WInd_field_x _ _ _ _ _ _ rfl rfl HFld.out))) | fail); (apply awpP_cong; (case hT => ((try simp only [wtn]); rfl)); (case hH => rfl)); (first | refine awpP_load 3 rfl rfl (by kernel_rfl) (by intro c T H hp; simp [thenA, inBlockA, jumpA, endA] at hp) _ _ _ _ _ _ _ _ rfl rfl FBox.out HAgg.out (by first | exact Nat.le_of_ble_eq_true rfl | fail) (by first | exact Nat.le_of_ble_eq_true rfl | fail) ?_ | fail); (apply awpP_cong; (case hT => ((try simp only [wtn, ↓reduceIte]); rfl)); (case hH => rfl)); (first | (apply awpP_take 4 rfl rfl (by kernel_rfl) (by intro c T H hp; simp [thenA, inBlockA, jumpA, endA] at hp); (case h => (exact WInd_as _ rfl))) | fail); (apply awpP_cong; (case hT => ((try simp only [wtn]); rfl)); (case hH => rfl))
    refine awpP_rest (by decide +kernel) ?_
    refine awpA_cong rfl (by simp only [List.cons_append, List.nil_append]; rfl) ?_
    (refine awpA_1 5 (by decide +kernel) rfl rfl ?_; (first | (((refine Stp_k 16 rfl ?_; ((refine Stp_store _ _ _ _ _ _ _ rfl rfl FBox.out HSize.out (by first | rfl | fail) (by first | exact Nat.le_of_ble_eq_true rfl | fail) ?_)))); apply awpA_cong; (case hT => ((try simp only [wtn]); rfl)); (case hH => ((try simp only [wtn, Nat.reduceAdd]); rfl))) | fail))
    refine awpA_done (by decide +kernel) ?_
    (repeat' (first | with_reducible (first | refine awp_ret ?_ | refine thenA_normal ?_ | refine thenA_ret ?_ | refine inBlockA_ret ?_) | fail))
    refine endA_ret _ _ (Res2 rfl (RV.tmp _) (RV.cell 3 rfl rfl HAgg.out (by simp) (by simp)) (Weak.mk' [_, _, _, _] [] (List.Perm.refl _) VwHs.nil (VwL.cons Vw.nil (VwL.refl _ _)))) ?_
    refine ⟨?_, rfl, f2⟩
    rw [f3, f4, f5]
    rfl
  · have hk6 : ts[kk].kind ≠ 6 := by assumption
    have h0 : e7 = 0 := by assumption
    have h1 := w5 h0
    have hg := (g7.ok h0).2.1
    refine ⟨(k7, e7, l7, c7, sv7, js ++ [j7], ad, cap), by simp only; omega, ⟨q7, h0, hsv7, by simp only [List.length_append, List.length_cons, List.length_nil]; omega, fun j hj => ?_, ?_⟩, ?_⟩
    · rcases List.mem_append.1 hj with hj | hj
      · exact g5'.out j hj
      · rw [List.mem_singleton] at hj; subst hj; exact w4.mono (by omega)
    · rw [← g6'.out]
      exact (gJobs_step (x := (j7, k7)) (by rw [tkA_get g1]; exact hk6) hg ⟨h1, g1⟩).symm
    · simp only [jfa_app, List.length_append, List.length_cons, List.length_nil]
      exact Weak.mk' [_, _] [.box pb _, .row ad _ cap _ _ _, .box fb _] (List.Perm.trans (l₂ := [.box pb _, .row ad _ cap _ _ _, .box fb _] ++ [_, _]) (by (repeat' (first | exact List.Perm.refl _ | refine (List.perm_middle (l₁ := [_, _])).trans (List.Perm.cons _ ?_) | fail))) List.perm_append_comm) (VwHs.refl _ _) (by (repeat' (first | exact VwL.nil | (refine VwL.cons ?_ ?_) | exact Vw.refl _ | exact Vw.top _ | fail)))
  · have hk6 : ts[kk].kind = 6 := by assumption
    have hg : gJobs ts 0 [] = .ok js := g6'.out.symm.trans (gJobs_end (by rw [tkA_get g1]; exact hk6))
    rw [hg]
    refine endA_ret _ _ (Res2 rfl (RV.tmp _) (RV.cell 2 rfl rfl HAgg.out (by simp) (by simp)) (Weak.mk' [_, _, _] [] (List.Perm.refl _) VwHs.nil (VwL.cons (Vw.row (List.Mem.tail _ (List.Mem.head _)) (VwL.refl _ _)) (VwL.refl _ _)))) ?_
    exact ⟨rfl, rfl, by omega, fun j hj => by obtain ⟨q1, q2, q3⟩ := g5'.out j hj; exact ⟨by omega, by omega, by omega⟩⟩
theorem parse_g (s : List UInt8) (hl : s.length ≤ 1000000) : Spec Tryz.prog 15 [] [.x (.string (bs s))] (fun r H' => r = jres (gParse s) ∧ H' = [] ∧ JOk (gParse s)) := by
  cases hx : lex s with
  | error f => exact parse_gerr s hl f hx
  | ok ts => exact parse_gok s hl ts hx
end Go.Proofs.YtkhhlmonhapmaaaGreatDoor
namespace Go.Proofs.YtkhhlmonhapmaaaGreatDoor
open Go.RowKit
def LexOk (s : List UInt8) : Prop := ∃ ts, lex s = .ok ts
end Go.Proofs.YtkhhlmonhapmaaaGreatDoor
