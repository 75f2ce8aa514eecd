import Derived.Test.YtkhhlmonhapmaaaGreatDoorW33
import Derived.Test.YtkhhlmonhapmaaaGreatDoorW7
import Derived.Test.YtkhhlmonhapmaaaGreatDoorW31
/- The program's parser: names that are needed, rungs. -/
set_option linter.unusedSimpArgs false
set_option linter.unusedVariables false
namespace Go.Proofs.YtkhhlmonhapmaaaGreatDoor
open Go.RowKit
set_option maxRecDepth 100000 in
set_option maxHeartbeats 8000000 in
theorem sindex_s (l : List (List UInt8)) (s : List UInt8) (hl : l.length ≤ 1000000) : Spec Tryz.prog 81 [] [.sq l.length (sa l), .x (.string (bs s))] (fun r H' => ∃ i : Int, r = .x (.int .i64 i) ∧ H' = [] ∧ (0 ≤ i ↔ s ∈ l)) := by
  refine Spec_of Tryz.func81 rfl ?_
  simp only [Tryz.ntmps81, List.length_cons, List.length_nil, List.replicate_succ, List.replicate_zero, List.cons_append, List.nil_append, Nat.reduceAdd, Nat.reduceSub]
  (repeat' (first | with_reducible (first | refine awp_seq ?_ | refine awp_region ?_ | refine awp_block ?_ | refine awpL_nil ?_ | refine thenA_normal ?_) | ((apply awpL_evl2 rfl); (case h => ((first | (apply Evl_k 0 rfl; (first | exact Evl_mv _ rfl | exact Evl_as _ rfl)) | (apply Evl_k 3 rfl; (exact Evl_len _ _ _ _ _ _ HEl.out rfl rfl))))); (case hT => ((try simp only [wtn]); rfl))) | fail))
  refine awp_loopS (S := Nat) (fun k => frm 19 [(0, .sq l.length (sa l)), (1, .x (.string (bs s))), (7, .x (.int .i64 l.length)), (8, .x (.int .i64 k))]) (fun _ => []) (fun k => k ≤ l.length ∧ s ∉ l.take k) (fun k => l.length - k) 0 (Weak.mk' [] _ (List.Perm.refl _) (VwHs.refl _ _) (by (repeat' (first | exact VwL.nil | (refine VwL.cons ?_ ?_) | exact Vw.refl _ | exact Vw.top _ | fail)))) ⟨Nat.zero_le _, by simp⟩ fun k hk => ?_
  simp only [frm, List.replicate_succ, List.replicate_zero, List.foldl_cons, List.foldl_nil, List.set_cons_zero, List.set_cons_succ]
  obtain ⟨hk, hn⟩ := hk
  have hn' := Lib.hid hn
  clear hn
  (repeat' (first | with_reducible (first | refine awp_seq ?_ | refine awp_region ?_ | refine awp_block ?_ | refine awp_ret ?_ | refine awp_skip ?_ | refine awp_exit ?_ | refine awpL_nil ?_ | refine thenA_normal ?_ | refine thenA_exit ?_ | refine thenA_ret ?_ | refine inBlockA_eq ?_ | refine inBlockA_normal ?_ | refine inBlockA_ret ?_) | (refine awp_cond _ rfl (fun h => ?_) (fun h => ?_) <;> ((try (simp only [whn] at h)); skip)) | ((apply awpL_evl2 rfl); (case h => ((first | (apply Evl_k 0 rfl; (first | exact Evl_mv _ rfl | exact Evl_as _ rfl)) | (apply Evl_k 6 rfl; (exact Evl_load_at _ _ _ _ _ rfl rfl HAgg.out (by first | exact Nat.le_of_ble_eq_true rfl | fail) (by first | exact Nat.le_of_ble_eq_true rfl | fail))) | (apply Evl_k 7 rfl; (exact Evl_index_sq _ _ _ _ _ _ _ _ _ _ rfl rfl rfl HEl.out rfl (by first | omega | fail) (by simp; first | omega | fail))) | (apply Evl_x; (case hs => (intro _ _ h; cases h)); (case hx => rfl); (case hrun => (intro w; simp [wtb, AV.val, go_sem]; (try go_bits); rfl)))))); (case hT => ((try simp (disch := assumption) only [wtn, sa_drop, List.append_eq, List.foldl_cons, List.foldl_nil, List.map_cons, List.map_nil, Nat.reduceAdd, Nat.reduceMul, Nat.reduceSub, ↓reduceIte, Nat.reduceEqDiff]); rfl))) | fail))
  · refine endA_ret _ _ (Res1 rfl (RV.tmp _) (Weak.mk' [] _ (List.Perm.refl _) (VwHs.refl _ _) (VwL.refl _ _))) ?_
    exact ⟨k, rfl, rfl, by simp [h]⟩
  · exact ⟨k + 1, by omega, ⟨by omega, by rw [take_snoc' l k (by assumption)]; simp only [List.mem_append, List.mem_singleton, not_or]; exact ⟨hn'.out, fun e => h e⟩⟩, (Weak.mk' [] _ (List.Perm.refl _) (VwHs.refl _ _) (by (repeat' (first | exact VwL.nil | (refine VwL.cons ?_ ?_) | exact Vw.refl _ | exact Vw.top _ | fail))))⟩
  · refine endA_ret _ _ (Res1 rfl (RV.tmp _) (Weak.mk' [] _ (List.Perm.refl _) (VwHs.refl _ _) (VwL.refl _ _))) ?_
    have hn := hn'.out
    rw [List.take_of_length_le (by omega)] at hn
    exact ⟨-1, rfl, rfl, by simp [hn]⟩
set_option maxRecDepth 100000 in
set_option maxHeartbeats 8000000 in
theorem shas_s (l : List (List UInt8)) (s : List UInt8) (hl : l.length ≤ 1000000) : Spec Tryz.prog 55 [] [.sq l.length (sa l), .x (.string (bs s))] (fun r H' => r = .x (.bool (decide (s ∈ l))) ∧ H' = []) := by
  refine Spec_of Tryz.func55 rfl ?_
  simp only [Tryz.ntmps55, List.length_cons, List.length_nil, List.replicate_succ, List.replicate_zero, List.cons_append, List.nil_append, Nat.reduceAdd, Nat.reduceSub]
  (repeat' (first | with_reducible (first | refine awp_seq ?_ | refine awp_region ?_ | refine awp_ret ?_ | refine awpL_nil ?_ | refine thenA_normal ?_) | ((apply awpL_evl2 rfl); (case h => ((first | (apply Evl_k 0 rfl; (first | exact Evl_mv _ rfl | exact Evl_as _ rfl)) | (apply Evl_x; (case hs => (intro _ _ h; cases h)); (case hx => rfl); (case hrun => (intro w; simp [wtb, AV.val, go_sem]; skip; rfl)))))); (case hT => ((try simp only [wtn]); rfl))) | (refine awpL_cons rfl ?_; (((refine Stp_k 11 rfl ?_; ((refine Stp_call 81 Tryz.f81 ([]) _ _ _ rfl rfl Tryz.func81 (by decide) rfl (List.Perm.refl _) (VwL.refl _ _) (sindex_s l s hl) ?_; rintro _ _ ⟨i, rfl, rfl, hi⟩)))); apply awpL_cong; (case hT => ((try simp only [wtn]); rfl)); (case hH => ((try simp only [wtn]); rfl)))) | fail))
  refine endA_ret _ _ (Res1 rfl (RV.tmp _) (Weak.mk' [] _ (List.Perm.refl _) (VwHs.refl _ _) (VwL.refl _ _))) ?_
  exact ⟨by rw [← decide_eq_decide.2 hi]; rfl, rfl⟩
def jc (j : JF) (aE : Option Addr) (cE : Nat) (aN : Option Addr) (cN : Nat) (aL : Option Addr) (cL : Nat) : List AV := [.x (.string (bs j.name)), .x (.string (bs j.run)), .x (.slice aE j.env.length cE), .x (.slice aN j.needs.length cN), .x (.bool j.hasr), .x (.string (bs j.ready)), .x (.int .i64 j.restart), .x (.int .u64 j.base), .x (.int .u64 j.cap), .x (.int .u64 j.stable), .x (.int .i64 j.burst), .x (.int .u64 j.window), .x (.slice aL j.ladder.length cL), .x (.int .i64 j.line), .x (.int .i64 j.col)]
theorem gNeed_p (ts : List Tok) (k : Nat) (out : List (List UInt8)) : gNeed ts k out = gName ts k (decide (16 ≤ out.length)) >>= fun t => if t.text ∈ out then .error (flt 5 t) else .ok t.text := by
  unfold gNeed
  cases gName ts k (decide (16 ≤ out.length)) with
  | error f => rfl
  | ok t => simp only [bind, Except.bind, List.contains_iff_mem]
theorem dec16 (n : Nat) : decide ((16 : Int) ≤ (n : Int)) = decide (16 ≤ n) := decide_eq_decide.2 (by omega)
set_option maxRecDepth 100000 in
set_option maxHeartbeats 8000000 in
theorem need_p (pb jb : Nat) (ts : List Tok) (k : Nat) (j : JF) (aE : Option Addr) (cE : Nat) (aN : Option Addr) (cN : Nat) (aL : Option Addr) (cL : Nat) (hk : k < ts.length) (hT : TkOk ts) (hj : j.needs.length ≤ 1000000) :
    SpecP Tryz.prog 86 [.box pb (tc ts k), .box jb (jc j aE cE aN cN aL cL), .row aN j.needs.length cN 9 1 (sa j.needs)] [.x (.pointer (some ⟨pb, 0, none⟩)), .x (.pointer (some ⟨jb, 0, none⟩))]
      (fun r H' => ∃ x a c, r = .x (.tuple #[]) ∧ H' = [.box pb (tc ts (k + 1)), .box jb (jc { j with needs := j.needs ++ [x] } aE cE a c aL cL), .row a (j.needs ++ [x]).length c 9 1 (sa (j.needs ++ [x]))] ∧ gNeed ts k j.needs = .ok x ∧ k + 1 < ts.length)
      (fun v _ => ∃ f, gNeed ts k j.needs = .error f ∧ v = fv f) := by
  have hNm := fun full => name_p pb ts k full hk hT.len
  have hl := hT.len
  have hv := hT.vt k hk
  rw [gNeed_p, ← dec16]
  unfold Tok.av at hNm
  have hNm' := Lib.hid hNm
  clear hNm
  unfold jc
  refine SpecP_of Tryz.func86 rfl ?_
  simp only [Tryz.ntmps86, List.length_cons, List.length_nil, List.replicate_succ, List.replicate_zero, List.cons_append, List.nil_append, Nat.reduceAdd, Nat.reduceSub]
  (repeat' (first | with_reducible (first | refine awp_seq ?_ | refine awp_region ?_ | refine awpL_nil ?_ | refine thenA_normal ?_ | refine thenA_panic ?_) | ((apply awpL_evl2 rfl); (case h => ((first | (apply Evl_k 0 rfl; (exact Evl_mv _ rfl)) | (apply Evl_k 4 rfl; (exact Evl_nil _ rfl (by first | exact .inl ⟨_, rfl⟩ | fail))) | (apply Evl_k 5 rfl; (exact Evl_field_x _ _ _ _ _ _ rfl rfl HFld.out)) | (apply Evl_k 6 rfl; (exact Evl_load _ _ _ _ _ _ _ _ rfl rfl FBox.out HAgg.out (by first | exact Nat.le_of_ble_eq_true rfl | fail) (by first | exact Nat.le_of_ble_eq_true rfl | fail))) | (apply Evl_x; (case hs => (intro _ _ h; cases h)); (case hx => rfl); (case hrun => (intro w; simp [wtb, AV.val, go_sem]; skip; rfl)))))); (case hT => ((try simp only [wtn]); rfl))) | (refine awpL_consP rfl ?_; refine StpP_call 51 Tryz.f51 [_] _ _ _ _ rfl rfl Tryz.func51 (by decide) rfl (List.Perm.refl _) (VwL.refl _ _) (hNm'.out _) ?_ ?_; (case' refine_1 => (rintro _ _ ⟨rfl, rfl, hp, hk1⟩; (apply awpL_cong; (case hT => ((try simp only [wtn]); rfl)); (case hH => ((try simp only [wtn]); rfl))))); (case' refine_2 => (rintro _ _ ⟨f, hp, rfl⟩))) | (refine awpL_cons rfl ?_; ((first | (refine Stp_k 14 rfl ?_; ((refine Stp_alloc _ _ rfl HZero.out rfl (fun b => ?_)))) | (refine Stp_k 16 rfl ?_; ((refine Stp_store _ _ _ _ _ _ _ rfl rfl FBox.out HSize.out (by first | rfl | fail) (by first | exact Nat.le_of_ble_eq_true rfl | fail) ?_)))); apply awpL_cong; (case hT => ((try simp only [wtn]); rfl)); (case hH => ((try simp only [wtn, Nat.reduceAdd]); rfl)))) | fail))
  · (repeat (with_reducible first | refine thenA_panic ?_ | fail)); refine endP_panic _ _ (Weak.mk' [] _ (List.Perm.refl _) (VwHs.refl _ _) VwL.nil) ?_
    exact ⟨f, by rw [hp]; rfl, rfl⟩
  have hk2 := hv (by omega)
  refine awp_drawnQ mixed ?_ ?_
  · decide +kernel
  (repeat' (first | with_reducible (first | refine awp_region ?_ | refine awp_skip ?_ | refine dr_nil ?_ | refine thenA_normal ?_ | refine thenA_panic ?_) | (refine awp_cond _ rfl (fun h => ?_) (fun h => ?_) <;> ((try (simp only [whn] at h)); skip)) | ((first | apply awpL_evl2 rfl | apply dr_evl2 rfl); (case h => ((first | (apply Evl_k 0 rfl; (exact Evl_mv _ rfl)) | (apply Evl_k 4 rfl; (exact Evl_nil _ rfl (by first | exact .inl ⟨_, rfl⟩ | fail))) | (apply Evl_k 5 rfl; (exact Evl_field_x _ _ _ _ _ _ rfl rfl HFld.out)) | (apply Evl_k 6 rfl; (exact Evl_load _ _ _ _ _ _ _ _ rfl rfl FBox.out HAgg.out (by first | exact Nat.le_of_ble_eq_true rfl | fail) (by first | exact Nat.le_of_ble_eq_true rfl | fail))) | (apply Evl_k 11 rfl; (exact Evl_callL 55 Tryz.f55 _ _ rfl rfl Tryz.func55 (by decide) rfl (by (repeat' (first | exact VwL.nil | (refine VwL.cons ?_ ?_) | exact Vw.refl _ | exact Vw.row (List.Mem.tail _ (List.Mem.tail _ (List.Mem.tail _ (List.Mem.head _)))) (VwL.refl _ _) | fail)); done) (shas_s j.needs ts[k].text hj)))))); (case hT => ((try simp only [wtn, ↓reduceIte]); rfl))) | (refine awpL_consP rfl ?_; refine StpP_call 50 Tryz.f50 [] _ _ _ _ rfl rfl Tryz.func50 (by decide) rfl (List.Perm.refl _) (VwL.refl _ _) (fail_p _ ts[k]) ?_ ?_; (case refine_1 => (rintro _ _ ⟨⟩)); (case' refine_2 => (rintro _ _ ⟨rfl, rfl⟩))) | fail))
  · (repeat (with_reducible first | refine thenA_panic ?_ | fail)); refine endP_panic _ _ (Weak.mk' [] _ (List.Perm.refl _) (VwHs.refl _ _) VwL.nil) ?_
    exact ⟨_, by rw [hp]; exact if_pos h, rfl⟩
  refine awpP_drawn mixed [11] [.box b [.x (.int .i64 ts[k].kind), .x (.string (bs ts[k].text)), .x (.int .i64 (ts[k].line : Nat)), .x (.int .i64 (ts[k].col : Nat))], .box jb _] [.box pb _, .row aN _ _ _ _ _] (by (repeat' (first | exact List.Perm.refl _ | refine List.Perm.cons _ ?_ | refine (List.perm_middle (l₁ := [_])).trans (List.Perm.cons _ ?_) | fail))) ?_
  (first | (apply awpP_takeI 0 rfl rfl (by kernel_rfl) (fun _ _ _ _ hp => hp); (case h => (exact WInd_mv _ rfl))) | fail); (apply awpP_cong; (case hT => ((try simp only [wtn]); rfl)); (case hH => rfl)); (first | (apply awpP_takeI 1 rfl rfl (by kernel_rfl) (fun _ _ _ _ hp => hp); (case h => (exact WInd_mv _ rfl))) | fail); (apply awpP_cong; (case hT => ((try simp only [wtn]); rfl)); (case hH => rfl)); (first | (apply awpP_takeI 2 rfl rfl (by kernel_rfl) (fun _ _ _ _ hp => hp); (case h => (exact WInd_nil _ _ _ rfl rfl))) | fail); (apply awpP_cong; (case hT => ((try simp only [wtn]); rfl)); (case hH => rfl)); (first | (apply awpP_takeI 3 rfl rfl (by kernel_rfl) (fun _ _ _ _ hp => hp); (case h => (exact WInd_field_x _ _ _ _ _ _ rfl rfl HFld.out))) | fail); (apply awpP_cong; (case hT => ((try simp only [wtn]); rfl)); (case hH => rfl)); (first | refine awpP_loadI 4 rfl rfl (by kernel_rfl) (fun _ _ _ _ hp => hp) _ _ _ _ _ _ _ _ rfl rfl FBox.out HAgg.out (by first | exact Nat.le_of_ble_eq_true rfl | fail) (by first | exact Nat.le_of_ble_eq_true rfl | fail) ?_ | fail); (apply awpP_cong; (case hT => ((try simp only [wtn]); rfl)); (case hH => rfl)); (first | (apply awpP_takeI 5 rfl rfl (by kernel_rfl) (fun _ _ _ _ hp => hp); (case h => (exact WInd_field_x _ _ _ _ _ _ rfl rfl HFld.out))) | fail); (apply awpP_cong; (case hT => ((try simp only [wtn]); rfl)); (case hH => rfl)); (first | refine awpP_loadI 6 rfl rfl (by kernel_rfl) (fun _ _ _ _ hp => hp) _ _ _ _ _ _ _ _ rfl rfl FBox.out HAgg.out (by first | exact Nat.le_of_ble_eq_true rfl | fail) (by first | exact Nat.le_of_ble_eq_true rfl | fail) ?_ | fail); (apply awpP_cong; (case hT => ((try simp only [wtn]); rfl)); (case hH => rfl))
  (refine awpP_1 7 (by decide +kernel) rfl rfl ?_; (first | (((refine Stp_k 17 rfl ?_; ((refine Stp_buildSlice _ _ _ _ _ _ _ _ rfl HElem.out (by first | rfl | fail) rfl (by decide) rfl (fun b => ?_))))); apply awpP_cong; (case hT => ((try simp only [wtn]); rfl)); (case hH => ((try simp only [wtn]); rfl))) | fail))
  (refine awpP_1 8 (by decide +kernel) rfl rfl ?_; (first | (((refine Stp_k 13 rfl ?_; ((refine Stp_append _ _ _ _ _ _ _ _ _ _ _ _ _ _ rfl rfl FRow.out (Src.row _ rfl FRow.out) HElem.out (by first | rfl | fail) (fits _ _ (by omega) (by decide)) (fun ad cap => ?_))))); apply awpP_cong; (case hT => ((try simp only [wtn]); rfl)); (case hH => ((try simp only [wtn, Nat.reduceAdd]); rfl))) | fail))
  (repeat ((first | refine awpP_1 9 (by decide +kernel) rfl rfl ?_ | refine awpP_1 10 (by decide +kernel) rfl rfl ?_ | fail); (first | (apply Stp_evl; (case h => (first | (apply Evl_k 4 rfl; (exact Evl_nil _ rfl (by first | exact .inl ⟨_, rfl⟩ | fail))) | (apply Evl_k 5 rfl; (exact Evl_field_x _ _ _ _ _ _ rfl rfl HFld.out)))); (apply awpP_cong; (case hT => ((try simp only [wtn]); rfl)); (case hH => rfl))) | fail)))
  refine awpP_rest (by decide +kernel) ?_
  refine awpA_cong rfl (by simp only [List.cons_append, List.nil_append]; rfl) ?_
  (refine awpA_1 11 (by decide +kernel) rfl rfl ?_; (first | (((refine Stp_k 16 rfl ?_; ((refine Stp_store _ _ _ _ _ _ _ rfl rfl FBox.out HSize.out (by first | rfl | fail) (by first | exact Nat.le_of_ble_eq_true rfl | fail) ?_)))); apply awpA_cong; (case hT => ((try simp only [wtn]); rfl)); (case hH => ((try simp only [wtn]); rfl))) | fail))
  refine awpA_done (by decide +kernel) ?_
  (repeat' (first | with_reducible (refine dr_nil ?_) | fail))
  refine endP_normal _ _ (Res0 rfl (Weak.mk' [.box _ [.x (.int .i64 ts[k].kind), .x (.string (bs ts[k].text)), .x (.int .i64 (ts[k].line : Nat)), .x (.int .i64 (ts[k].col : Nat))], .row (some _) 1 1 _ _ _] [.box pb _, .box jb _, .row ad _ cap _ _ _] (by (repeat' (first | exact List.Perm.refl _ | refine List.Perm.cons _ ?_ | refine (List.perm_middle (l₁ := [_])).trans (List.Perm.cons _ ?_) | fail))) (VwHs.refl _ _) VwL.nil)) ⟨ts[k].text, ad, cap, rfl, ?_, by rw [hp]; exact if_neg h, hk2⟩
  simp only [sa_app, List.length_append, List.length_cons, List.length_nil]; rfl
def rungP (ts : List Tok) (k : Nat) (out : List (Int × Int)) (t : Tok) : Except Flt (Int × Int) := if 5 ≤ out.length then .error (flt 1 t) else if sigv t.text = 0 then .error (flt 4 t) else (gNum ts (k + 1)).map fun n => (sigv t.text, n)
theorem gRung_p (ts : List Tok) (k : Nat) (out : List (Int × Int)) (hk : k < ts.length) (hS : ts[k].text.length ≤ 8192) : gRung ts k out = pTake ts k 1 >>= rungP ts k out := by
  unfold gRung rungP
  rw [gTake_as]
  cases h : pTake ts k 1 with
  | error f => rfl
  | ok t =>
    have e : t = ts[k] := by
      unfold pTake at h
      rw [tkA_get hk] at h
      split at h
      · cases h; rfl
      · cases h
    simp only [bind, Except.bind]
    rw [if_neg (by rw [e]; omega)]
    cases gNum ts (k + 1) <;> rfl
set_option maxRecDepth 100000 in
set_option maxHeartbeats 8000000 in
theorem rung_p (pb jb : Nat) (ts : List Tok) (k : Nat) (j : JF) (aE : Option Addr) (cE : Nat) (aN : Option Addr) (cN : Nat) (aL : Option Addr) (cL : Nat) (hk : k < ts.length) (hT : TkOk ts) (hj : j.ladder.length ≤ 1000000) :
    SpecP Tryz.prog 91 [.box pb (tc ts k), .box jb (jc j aE cE aN cN aL cL), .row aL j.ladder.length cL 53 2 (ra j.ladder)] [.x (.pointer (some ⟨pb, 0, none⟩)), .x (.pointer (some ⟨jb, 0, none⟩))]
      (fun r H' => ∃ x a c, r = .x (.tuple #[]) ∧ H' = [.box pb (tc ts (k + 2)), .box jb (jc { j with ladder := j.ladder ++ [x] } aE cE aN cN a c), .row a (j.ladder ++ [x]).length c 53 2 (ra (j.ladder ++ [x]))] ∧ gRung ts k j.ladder = .ok x ∧ k + 2 < ts.length)
      (fun v _ => ∃ f, gRung ts k j.ladder = .error f ∧ v = fv f) := by
  have hTk := take_p pb ts k 1 hk hT.len
  have hl := hT.len
  have hv := hT.vt k hk
  have hS := hT.short ts[k] (List.getElem_mem hk)
  rw [gRung_p ts k _ hk hS]
  unfold Tok.av at hTk
  unfold jc
  refine SpecP_of Tryz.func91 rfl ?_
  simp only [Tryz.ntmps91, List.length_cons, List.length_nil, List.replicate_succ, List.replicate_zero, List.cons_append, List.nil_append, Nat.reduceAdd, Nat.reduceSub]
  (repeat' (first | with_reducible (first | refine awp_seq ?_ | refine awp_region ?_ | refine awp_skip ?_ | refine awpL_nil ?_ | refine thenA_normal ?_ | refine thenA_panic ?_) | (refine awp_cond _ rfl (fun h => ?_) (fun h => ?_) <;> ((try (simp only [whn] at h)); skip)) | ((apply awpL_evl2 rfl); (case h => ((first | (apply Evl_k 0 rfl; (first | exact Evl_mv _ rfl | exact Evl_as _ rfl)) | (apply Evl_k 4 rfl; (exact Evl_nil _ rfl (by first | exact .inl ⟨_, rfl⟩ | fail))) | (apply Evl_k 5 rfl; (exact Evl_field_x _ _ _ _ _ _ rfl rfl HFld.out)) | (apply Evl_k 6 rfl; (exact Evl_load _ _ _ _ _ _ _ _ rfl rfl FBox.out HAgg.out (by first | exact Nat.le_of_ble_eq_true rfl | fail) (by first | exact Nat.le_of_ble_eq_true rfl | fail))) | (apply Evl_k 11 rfl; (exact Evl_call 22 Tryz.f22 _ _ rfl rfl Tryz.func22 (by decide) rfl (VwL.refl _ _) (gsignal_s _))) | (apply Evl_x; (case hs => (intro _ _ h; cases h)); (case hx => rfl); (case hrun => (intro w; simp [wtb, AV.val, go_sem]; skip; rfl)))))); (case hT => ((try simp only [wtn, ↓reduceIte]); rfl))) | (refine awpL_consP rfl ?_; refine StpP_call 49 Tryz.f49 [_] _ _ _ _ rfl rfl Tryz.func49 (by decide) rfl (List.Perm.refl _) (VwL.refl _ _) (hTk) ?_ ?_; (case' refine_1 => (rintro _ _ ⟨rfl, rfl, hp, hk1⟩; (apply awpL_cong; (case hT => ((try simp only [wtn]); rfl)); (case hH => ((try simp only [wtn]); rfl))))); (case' refine_2 => (rintro _ _ ⟨f, hp, rfl⟩))) | (refine awpL_consP rfl ?_; refine StpP_call 50 Tryz.f50 [] _ _ _ _ rfl rfl Tryz.func50 (by decide) rfl (List.Perm.refl _) (VwL.refl _ _) (fail_p _ ts[k]) ?_ ?_; (case refine_1 => (rintro _ _ ⟨⟩)); (case' refine_2 => (rintro _ _ ⟨rfl, rfl⟩))) | (refine awpL_cons rfl ?_; ((first | (refine Stp_k 14 rfl ?_; ((refine Stp_alloc _ _ rfl HZero.out rfl (fun b => ?_)))) | (refine Stp_k 16 rfl ?_; ((refine Stp_store _ _ _ _ _ _ _ rfl rfl FBox.out HSize.out (by first | rfl | fail) (by first | exact Nat.le_of_ble_eq_true rfl | fail) ?_)))); apply awpL_cong; (case hT => ((try simp only [wtn]); rfl)); (case hH => ((try simp only [wtn, Nat.reduceAdd]); rfl)))) | fail))
  · (repeat (with_reducible first | refine thenA_panic ?_ | fail)); refine endP_panic _ _ (Weak.mk' [] _ (List.Perm.refl _) (VwHs.refl _ _) VwL.nil) ?_
    exact ⟨f, by rw [hp]; rfl, rfl⟩
  · (repeat (with_reducible first | refine thenA_panic ?_ | fail)); refine endP_panic _ _ (Weak.mk' [] _ (List.Perm.refl _) (VwHs.refl _ _) VwL.nil) ?_
    exact ⟨_, by rw [hp]; exact if_pos (by omega), rfl⟩
  · (repeat (with_reducible first | refine thenA_panic ?_ | fail)); refine endP_panic _ _ (Weak.mk' [] _ (List.Perm.refl _) (VwHs.refl _ _) VwL.nil) ?_
    exact ⟨_, by rw [hp]; exact (if_neg (by omega)).trans (if_pos h), rfl⟩
  have hk2 := hv (by omega)
  have hN := number_p pb ts (k + 1) hk2 hT
  have hv2 := hT.vt (k + 1) hk2
  refine awpP_drawn mixed [13] [.box b [.x (.int .i64 ts[k].kind), .x (.string (bs ts[k].text)), .x (.int .i64 (ts[k].line : Nat)), .x (.int .i64 (ts[k].col : Nat))], .box jb _] [.box pb _, .row aL _ _ _ _ _] (by (repeat' (first | exact List.Perm.refl _ | refine List.Perm.cons _ ?_ | refine (List.perm_middle (l₁ := [_])).trans (List.Perm.cons _ ?_) | fail))) ?_
  (first | (apply awpP_takeI 0 rfl rfl (by kernel_rfl) (fun _ _ _ _ hp => hp); (case h => (exact WInd_mv _ rfl))) | fail); (apply awpP_cong; (case hT => ((try simp only [wtn]); rfl)); (case hH => rfl)); (first | (apply awpP_takeI 1 rfl rfl (by kernel_rfl) (fun _ _ _ _ hp => hp); (case h => (exact WInd_mv _ rfl))) | fail); (apply awpP_cong; (case hT => ((try simp only [wtn]); rfl)); (case hH => rfl)); (first | (apply awpP_takeI 2 rfl rfl (by kernel_rfl) (fun _ _ _ _ hp => hp); (case h => (exact WInd_nil _ _ _ rfl rfl))) | fail); (apply awpP_cong; (case hT => ((try simp only [wtn]); rfl)); (case hH => rfl)); (first | (apply awpP_takeI 3 rfl rfl (by kernel_rfl) (fun _ _ _ _ hp => hp); (case h => (exact WInd_field_x _ _ _ _ _ _ rfl rfl HFld.out))) | fail); (apply awpP_cong; (case hT => ((try simp only [wtn]); rfl)); (case hH => rfl)); (first | refine awpP_loadI 4 rfl rfl (by kernel_rfl) (fun _ _ _ _ hp => hp) _ _ _ _ _ _ _ _ rfl rfl FBox.out HAgg.out (by first | exact Nat.le_of_ble_eq_true rfl | fail) (by first | exact Nat.le_of_ble_eq_true rfl | fail) ?_ | fail); (apply awpP_cong; (case hT => ((try simp only [wtn]); rfl)); (case hH => rfl)); (first | (apply awpP_takeI 5 rfl rfl (by kernel_rfl) (fun _ _ _ _ hp => hp); (case h => (exact WInd_mv _ rfl))) | fail); (apply awpP_cong; (case hT => ((try simp only [wtn]); rfl)); (case hH => rfl)); (first | (apply awpP_takeI 6 rfl rfl (by kernel_rfl) (fun _ _ _ _ hp => hp); (case h => (exact WInd_mv _ rfl))) | fail); (apply awpP_cong; (case hT => ((try simp only [wtn]); rfl)); (case hH => rfl))
  (first | (refine awpP_1P 7 (by decide +kernel) rfl rfl ?_; refine StpP_call 88 Tryz.f88 [_] _ _ _ _ rfl rfl Tryz.func88 (by decide) rfl (List.Perm.refl _) (VwL.refl _ _) (hN) ?_ ?_; (case' refine_1 => (rintro _ _ ⟨n, rfl, rfl, hn, hk3⟩; (apply awpP_cong; (case hT => ((try simp only [wtn]); rfl)); (case hH => ((try simp only [wtn]); rfl))))); (case' refine_2 => (rintro _ _ ⟨f, hn, rfl⟩))) | fail)
  · (repeat (with_reducible first | refine thenA_panic ?_ | fail)); refine endP_panic _ _ (Weak.mk' [] _ (List.Perm.refl _) (VwHs.refl _ _) VwL.nil) ?_
    exact ⟨f, by rw [hp]; exact (if_neg (by omega)).trans ((if_neg (by assumption)).trans (by rw [hn]; rfl)), rfl⟩
  (refine awpP_1 8 (by decide +kernel) rfl rfl ?_; (first | (apply Stp_evl; (case h => ((apply Evl_k 10 rfl; (exact Evl_build _ _ _ _ _ rfl HPl.out (by first | rfl | fail) rfl)))); (apply awpP_cong; (case hT => ((try simp only [wtn, ↓reduceIte]); rfl)); (case hH => rfl))) | fail))
  (refine awpP_1 9 (by decide +kernel) rfl rfl ?_; (first | (((refine Stp_k 17 rfl ?_; ((refine Stp_buildSlice _ _ _ _ _ _ _ _ rfl HElem.out (by first | rfl | fail) rfl (by decide) rfl (fun b => ?_))))); apply awpP_cong; (case hT => ((try simp only [wtn]); rfl)); (case hH => ((try simp only [wtn, Nat.reduceAdd, Nat.reduceMul]); rfl))) | fail))
  (refine awpP_1 10 (by decide +kernel) rfl rfl ?_; (first | (((refine Stp_k 13 rfl ?_; ((refine Stp_append _ _ _ _ _ _ _ _ _ _ _ _ _ _ rfl rfl FRow.out (Src.row _ rfl FRow.out) HElem.out (by first | rfl | fail) (fits _ _ (by omega) (by decide)) (fun ad cap => ?_))))); apply awpP_cong; (case hT => ((try simp only [wtn]); rfl)); (case hH => ((try simp only [wtn, Nat.reduceAdd]); rfl))) | fail))
  (repeat ((first | refine awpP_1 11 (by decide +kernel) rfl rfl ?_ | refine awpP_1 12 (by decide +kernel) rfl rfl ?_ | fail); (first | (apply Stp_evl; (case h => (first | (apply Evl_k 4 rfl; (exact Evl_nil _ rfl (by first | exact .inl ⟨_, rfl⟩ | fail))) | (apply Evl_k 5 rfl; (exact Evl_field_x _ _ _ _ _ _ rfl rfl HFld.out)))); (apply awpP_cong; (case hT => ((try simp only [wtn]); rfl)); (case hH => rfl))) | fail)))
  refine awpP_rest (by decide +kernel) ?_
  refine awpA_cong rfl (by simp only [List.cons_append, List.nil_append]; rfl) ?_
  (refine awpA_1 13 (by decide +kernel) rfl rfl ?_; (first | (((refine Stp_k 16 rfl ?_; ((refine Stp_store _ _ _ _ _ _ _ rfl rfl FBox.out HSize.out (by first | rfl | fail) (by first | exact Nat.le_of_ble_eq_true rfl | fail) ?_)))); apply awpA_cong; (case hT => ((try simp only [wtn]); rfl)); (case hH => ((try simp only [wtn]); rfl))) | fail))
  refine awpA_done (by decide +kernel) ?_
  (repeat' (first | with_reducible (refine dr_nil ?_) | fail))
  refine endP_normal _ _ (Res0 rfl (Weak.mk' [.box _ [.x (.int .i64 ts[k].kind), .x (.string (bs ts[k].text)), .x (.int .i64 (ts[k].line : Nat)), .x (.int .i64 (ts[k].col : Nat))], .row (some _) 1 1 _ _ _] [.box pb _, .box jb _, .row ad _ cap _ _ _] (by (repeat' (first | exact List.Perm.refl _ | refine List.Perm.cons _ ?_ | refine (List.perm_middle (l₁ := [_])).trans (List.Perm.cons _ ?_) | fail))) (VwHs.refl _ _) VwL.nil)) ⟨(sigv ts[k].text, n), ad, cap, rfl, ?_, ?_, ?_⟩
  · simp only [ra_app, List.length_append, List.length_cons, List.length_nil]; rfl
  · rw [hp]
    exact (if_neg (by omega)).trans ((if_neg (by assumption)).trans (by rw [hn]; rfl))
  · exact hv2 (by omega)
end Go.Proofs.YtkhhlmonhapmaaaGreatDoor
namespace Go.Proofs.YtkhhlmonhapmaaaGreatDoor
open Go.RowKit
section
variable {P : Program} {Δ : List Deferred} {V O : Nat → Prop} {w0 w w' : World} {B H H' D : List Hp} {T T' : List AV} {a a' : Act} {o : Oper} {K : List AV → List Hp → Prop}
def isX : AV → Bool | .x _ => true | _ => false
def Hp.exb : Hp → Bool | .box _ cells => cells.all isX | .row _ _ _ _ _ cells => cells.all isX
theorem DenL.exX {F F' : Nat → Prop} {l : List AV} {vs : List Value} (h : DenL F w l vs) (hx : l.all isX = true) : DenL F' w l vs := DenL.of h.len fun j av u h1 h2 => by
  have := h.get' j av u h1 h2
  have hxa := List.all_eq_true.1 hx av (List.mem_of_getElem? h1)
  cases av with
  | x v => rw [Den] at this ⊢; exact this
  | _ => cases hxa
theorem HpOk.exX {F F' : Nat → Prop} : ∀ {h : Hp}, h.exb = true → HpOk F w h → HpOk F' w h
  | .box .., hx, ⟨vals, h1, h2⟩ => ⟨vals, h1.exX hx, h2⟩
  | .row .., hx, ⟨vals, h1, h2⟩ => ⟨vals, h1.exX hx, h2⟩
theorem Stp_callX {c : Operand} {args : Array Operand} {tys : Array TypeId} {fs cs : Array Value} (f : FuncId) (fn : Func) (H1 R : List Hp) (avs : List AV) (Qf : AV → List Hp → Prop) (ho : o.op = .call { callee := .value c, args := args, argTypes := tys }) (hc : ev T c = .x (.func (.func f) fs cs))
    (hf : P.funcs[f]? = some fn) (hn : fn.name ≠ "runtime.NumGoroutine") (hb : fn.body.isSome = true) (hp : H.Perm (H1 ++ R)) (hargs : VwL R (fs.toList.map .x ++ args.toList.map (ev T) ++ cs.toList.map .x) avs) (hS : Spec P f H1 avs Qf) (hex : ∀ r H', Qf r H' → isX r = true ∧ ∀ h ∈ H', h.exb = true)
    (hK : ∀ r H', Qf r H' → K (putT T o.dst r) (H' ++ R)) : Stp P o T H K := by
  intro Δ V O w0 a w Kc Qc r hKc
  have r1 := r.perm hp
  have hap := List.pairwise_append.1 r1.hok.apart
  have hsub : ∀ k, FB V H1 k → FB V (H1 ++ R) k := fun k hk => hk.imp id fun ⟨x, hx, e⟩ => ⟨x, by simp [hx], e⟩
  have hV : ∀ k, V k → k < w.heap.size := fun k hk => Nat.lt_of_lt_of_le (r.vlt k hk) r.fr.size
  have hH1 : HOk V w H1 := ⟨fun x hx => (r1.hok.ok x (by simp [hx])).weak hsub, hap.1, fun x hx k hk => r1.hok.lt x (by simp [hx]) k hk⟩
  have hd : DenL (FB V H1) w avs (fs.toList ++ args.toList.map a.eval ++ cs.toList) := hargs.den hsub (fun h hh => ⟨r1.hok.ok h (by simp [hh]), fun k e hk => by
    rcases hk with hk | ⟨x, hx, e'⟩
    · exact (r1.hok.lt h (by simp [hh]) k e).2 hk
    · exact hap.2.2 x hx h hh k e' e⟩) _ ((DenL.exact.app (denL_map r1 args.toList)).app DenL.exact)
  refine wp_call_of ho (r.evx hc) hf hn hb (vs := (fs.toList ++ args.toList.map a.eval ++ cs.toList).toArray) (by apply Array.toList_inj.1; simp) ?_
  refine (hS V w _ hV hH1 hd (r1.gb.mono fun k ⟨x, hx, e⟩ => ⟨x, by simp [hx], e⟩)).mono ?_
  rintro e w' ⟨res, H', v, hq, rfl, hdv, hok', hfr, hown⟩
  obtain ⟨hrx, hhx⟩ := hex res H' hq
  have hok2 : HOk (FB V R) w' H' := ⟨fun x hx => (hok'.ok x hx).exX (hhx x hx), hok'.apart, fun x hx k hk => ⟨(hok'.lt x hx k hk).1, fun hv => by
    rcases hv with hv | ⟨y, hy, e⟩
    · exact (hok'.lt x hx k hk).2 hv
    · rcases hown x hx k hk with ⟨z, hz, e'⟩ | h
      · exact hap.2.2 z hz y hy k e' e
      · have := (r1.hok.lt y (by simp [hy]) k e).1; omega⟩⟩
  refine ⟨v, rfl, hKc _ _ _ _ (hK res H' hq) ((r1.called hok2 hfr hown).1.put _ ?_)⟩
  cases res with
  | x u => rw [Den] at hdv ⊢; exact hdv
  | _ => cases hrx
end
end Go.Proofs.YtkhhlmonhapmaaaGreatDoor
