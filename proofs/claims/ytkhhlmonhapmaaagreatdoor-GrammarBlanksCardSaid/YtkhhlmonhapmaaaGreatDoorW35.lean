import Derived.Test.YtkhhlmonhapmaaaGreatDoorW34
/- The program's parser: variables. -/
set_option linter.unusedSimpArgs false
set_option linter.unusedVariables false
namespace Go.Proofs.YtkhhlmonhapmaaaGreatDoor
open Go.RowKit
set_option maxRecDepth 100000 in
set_option maxHeartbeats 8000000 in
theorem vindex_s (l : List (List UInt8 × List UInt8)) (H : List Hp) (g : Nat) (fn : Func) (cs : Array Value) (p : List UInt8 × List UInt8 → Bool) (hl : l.length ≤ 1000000) (hf : Tryz.prog.funcs[g]? = some fn) (hnn : fn.name ≠ "runtime.NumGoroutine") (hb : fn.body.isSome = true)
    (hp : ∀ j ∈ l, Spec Tryz.prog g H (.x (.agg #[.string (bs j.1), .string (bs j.2)]) :: cs.toList.map .x) (fun r H' => r = .x (.bool (p j)) ∧ H' = H)) :
    Spec Tryz.prog 136 H [.sq l.length (ea l), .x (.func (.func g) #[] cs)] (fun r H' => ∃ i : Int, r = .x (.int .i64 i) ∧ H' = H ∧ (0 ≤ i ↔ l.any p = true)) := by
  have hp := Lib.hid hp
  refine Spec_of Tryz.func136 rfl ?_
  simp only [Tryz.ntmps136, List.length_cons, List.length_nil, List.replicate_succ, List.replicate_zero, List.cons_append, List.nil_append, Nat.reduceAdd, Nat.reduceSub]
  (repeat' (first | with_reducible (first | refine awp_seq ?_ | refine awp_region ?_ | refine awp_block ?_ | refine awpL_nil ?_ | refine thenA_normal ?_) | ((apply awpL_evl2 rfl); (case h => ((first | (apply Evl_k 0 rfl; (first | exact Evl_mv _ rfl | exact Evl_as _ rfl)) | (apply Evl_k 3 rfl; (exact Evl_len _ _ _ _ _ _ HEl.out rfl rfl))))); (case hT => ((try simp only [wtn]); rfl))) | fail))
  refine awp_loopS (S := Nat) (fun k => frm 19 [(0, .sq l.length (ea l)), (1, .x (.func (.func g) #[] cs)), (7, .x (.int .i64 l.length)), (8, .x (.int .i64 k))]) (fun _ => H) (fun k => k ≤ l.length ∧ (l.take k).any p = false) (fun k => l.length - k) 0 (Weak.mk' [] _ (List.Perm.refl _) (VwHs.refl _ _) (by (repeat' (first | exact VwL.nil | (refine VwL.cons ?_ ?_) | exact Vw.refl _ | exact Vw.top _ | fail)))) ⟨Nat.zero_le _, by simp⟩ fun k hk => ?_
  simp only [frm, List.replicate_succ, List.replicate_zero, List.foldl_cons, List.foldl_nil, List.set_cons_zero, List.set_cons_succ]
  obtain ⟨hk, hn⟩ := hk
  have hn := Lib.hid hn
  (repeat' (first | with_reducible (first | refine awp_seq ?_ | refine awp_region ?_ | refine awp_block ?_ | refine awp_ret ?_ | refine awp_skip ?_ | refine awp_exit ?_ | refine awpL_nil ?_ | refine thenA_normal ?_ | refine thenA_exit ?_ | refine thenA_ret ?_ | refine inBlockA_eq ?_ | refine inBlockA_normal ?_ | refine inBlockA_ret ?_) | (refine awp_cond _ rfl (fun h => ?_) (fun h => ?_) <;> ((try (simp only [whn] at h)); skip)) | ((apply awpL_evl2 rfl); (case h => ((first | (apply Evl_k 0 rfl; (first | exact Evl_mv _ rfl | exact Evl_as _ rfl)) | (apply Evl_k 6 rfl; (exact Evl_load_at _ _ _ _ _ rfl rfl HAgg.out (by first | exact Nat.le_of_ble_eq_true rfl | fail) (by first | exact Nat.le_of_ble_eq_true rfl | fail))) | (apply Evl_k 7 rfl; (exact Evl_index_sq _ _ _ _ _ _ _ _ _ _ rfl rfl rfl HEl.out rfl (by first | omega | fail) (by simp; first | omega | fail))) | (apply Evl_x; (case hs => (intro _ _ h; cases h)); (case hx => rfl); (case hrun => (intro w; simp [wtb, AV.val, go_sem]; (try go_bits); rfl)))))); (case hT => ((try simp (disch := assumption) only [wtn, ea_drop, List.append_eq, List.foldl_cons, List.foldl_nil, List.map_cons, List.map_nil, Nat.reduceAdd, Nat.reduceMul, Nat.reduceSub, ↓reduceIte, Nat.reduceEqDiff]); rfl))) | (refine awpL_cons rfl ?_; (((refine Stp_k 11 rfl ?_; ((refine Stp_call g fn H [] _ _ rfl rfl hf hnn hb (by simp) (VwL.refl _ _) (hp.out l[k] (List.getElem_mem h)) ?_; rintro _ _ ⟨rfl, rfl⟩)))); apply awpL_cong; (case hT => ((try simp (disch := omega) only [wtn, ea_drop, List.append_eq, List.foldl_cons, List.foldl_nil, List.map_cons, List.map_nil, Nat.reduceAdd, Nat.reduceMul, Nat.reduceSub, ↓reduceIte, Nat.reduceEqDiff]); rfl)); (case hH => ((try simp (disch := omega) only [wtn, ea_drop, List.append_eq, List.foldl_cons, List.foldl_nil, List.map_cons, List.map_nil, Nat.reduceAdd, Nat.reduceMul, Nat.reduceSub, ↓reduceIte, Nat.reduceEqDiff]); rfl)))) | fail))
  · refine endA_ret _ _ (Res1 rfl (RV.tmp _) (Weak.mk' [] _ (List.Perm.refl _) (VwHs.refl _ _) (VwL.refl _ _))) ?_
    exact ⟨k, rfl, rfl, ⟨fun _ => List.any_eq_true.2 ⟨_, List.getElem_mem (by assumption), h⟩, fun _ => by omega⟩⟩
  · exact ⟨k + 1, by omega, ⟨by omega, by rw [take_snoc' l k (by assumption), List.any_append, hn.out]; simp [h]⟩, (Weak.mk' [] _ (List.Perm.refl _) (VwHs.refl _ _) (by (repeat' (first | exact VwL.nil | (refine VwL.cons ?_ ?_) | exact Vw.refl _ | exact Vw.top _ | fail))))⟩
  · refine endA_ret _ _ (Res1 rfl (RV.tmp _) (Weak.mk' [] _ (List.Perm.refl _) (VwHs.refl _ _) (VwL.refl _ _))) ?_
    have hn := hn.out
    rw [List.take_of_length_le (by omega)] at hn
    exact ⟨-1, rfl, rfl, by simp [hn]⟩
set_option maxRecDepth 100000 in
set_option maxHeartbeats 8000000 in
theorem vcont_s (l : List (List UInt8 × List UInt8)) (H : List Hp) (g : Nat) (fn : Func) (cs : Array Value) (p : List UInt8 × List UInt8 → Bool) (hl : l.length ≤ 1000000) (hf : Tryz.prog.funcs[g]? = some fn) (hnn : fn.name ≠ "runtime.NumGoroutine") (hb : fn.body.isSome = true)
    (hp : ∀ j ∈ l, Spec Tryz.prog g H (.x (.agg #[.string (bs j.1), .string (bs j.2)]) :: cs.toList.map .x) (fun r H' => r = .x (.bool (p j)) ∧ H' = H)) :
    Spec Tryz.prog 125 H [.sq l.length (ea l), .x (.func (.func g) #[] cs)] (fun r H' => r = .x (.bool (l.any p)) ∧ H' = H) := by
  have hp := Lib.hid hp
  refine Spec_of Tryz.func125 rfl ?_
  simp only [Tryz.ntmps125, List.length_cons, List.length_nil, List.replicate_succ, List.replicate_zero, List.cons_append, List.nil_append, Nat.reduceAdd, Nat.reduceSub]
  (repeat' (first | with_reducible (first | refine awp_seq ?_ | refine awp_region ?_ | refine awp_ret ?_ | refine awpL_nil ?_ | refine thenA_normal ?_) | ((apply awpL_evl2 rfl); (case h => ((first | (apply Evl_k 0 rfl; (first | exact Evl_mv _ rfl | exact Evl_as _ rfl)) | (apply Evl_x; (case hs => (intro _ _ h; cases h)); (case hx => rfl); (case hrun => (intro w; simp [wtb, AV.val, go_sem]; skip; rfl)))))); (case hT => ((try simp only [wtn]); rfl))) | (refine awpL_cons rfl ?_; (((refine Stp_k 11 rfl ?_; ((refine Stp_call 136 _ H [] _ _ rfl rfl Tryz.func136 (by decide) rfl (by simp) (VwL.refl _ _) (vindex_s l H g fn cs p hl hf hnn hb hp.out) ?_; rintro _ _ ⟨i, rfl, rfl, hi⟩)))); apply awpL_cong; (case hT => ((try simp only [wtn]); rfl)); (case hH => ((try simp only [wtn]); rfl)))) | fail))
  refine endA_ret _ _ (Res1 rfl (RV.tmp _) (Weak.mk' [] _ (List.Perm.refl _) (VwHs.refl _ _) (VwL.refl _ _))) ?_
  have e : decide (0 ≤ i) = l.any p := by
    cases h : l.any p with
    | true => exact decide_eq_true (hi.2 h)
    | false => exact decide_eq_false (fun hq => by rw [hi.1 hq] at h; cases h)
  exact ⟨by rw [← e]; rfl, rfl⟩
set_option maxRecDepth 100000 in
set_option maxHeartbeats 8000000 in
theorem vname_s (tb : Nat) (t : Tok) (v : List UInt8 × List UInt8) : Spec Tryz.prog 126 [.box tb [.x (.int .i64 t.kind), .x (.string (bs t.text)), .x (.int .i64 (t.line : Nat)), .x (.int .i64 (t.col : Nat))]] [.x (.agg #[.string (bs v.1), .string (bs v.2)]), .x (.pointer (some ⟨tb, 0, none⟩))] (fun r H' => r = .x (.bool (v.1 == t.text)) ∧ H' = [.box tb [.x (.int .i64 t.kind), .x (.string (bs t.text)), .x (.int .i64 (t.line : Nat)), .x (.int .i64 (t.col : Nat))]]) := by
  refine Spec_of Tryz.func126 rfl ?_
  simp only [Tryz.ntmps126, List.length_cons, List.length_nil, List.replicate_succ, List.replicate_zero, List.cons_append, List.nil_append, Nat.reduceAdd, Nat.reduceSub]
  (repeat' (first | with_reducible (first | refine awp_seq ?_ | refine awp_region ?_ | refine awp_ret ?_ | refine awpL_nil ?_ | refine thenA_normal ?_) | ((apply awpL_evl2 rfl); (case h => ((first | (apply Evl_k 0 rfl; (exact Evl_as _ rfl)) | (apply Evl_k 5 rfl; (exact Evl_field_x _ _ _ _ _ _ rfl rfl HFld.out)) | (apply Evl_k 6 rfl; (exact Evl_load _ _ _ _ _ _ _ _ rfl rfl FBox.out HAgg.out (by first | exact Nat.le_of_ble_eq_true rfl | fail) (by first | exact Nat.le_of_ble_eq_true rfl | fail))) | (apply Evl_x; (case hs => (intro _ _ h; cases h)); (case hx => rfl); (case hrun => (intro w; simp [wtb, AV.val, go_sem]; skip; rfl)))))); (case hT => ((try simp only [wtn]); rfl))) | (refine awpL_cons rfl ?_; (((refine Stp_k 15 rfl ?_; ((refine Stp_box _ _ rfl (by first | rfl | fail) (fun b => ?_))))); apply awpL_cong; (case hT => ((try simp only [wtn]); rfl)); (case hH => ((try simp only [wtn]); rfl)))) | fail))
  refine endA_ret _ _ (Res1 rfl (RV.tmp _) (Weak.mk' [_] [_] (List.Perm.refl _) (VwHs.refl _ _) (by first | exact VwL.refl _ _ | fail))) ?_
  exact ⟨rfl, rfl⟩
set_option maxRecDepth 100000 in
set_option maxHeartbeats 8000000 in
theorem var_p (pb jb : Nat) (ts : List Tok) (k : Nat) (j : JF) (aE : Option Addr) (cE : Nat) (aN : Option Addr) (cN : Nat) (aL : Option Addr) (cL : Nat) (hk : k < ts.length) (hT : TkOk ts) (hj : j.env.length ≤ 1000000) :
    SpecP Tryz.prog 83 [.box pb (tc ts k), .box jb (jc j aE cE aN cN aL cL), .row aE j.env.length cE 55 2 (ea j.env)] [.x (.pointer (some ⟨pb, 0, none⟩)), .x (.pointer (some ⟨jb, 0, none⟩))]
      (fun r H' => ∃ x a c, r = .x (.tuple #[]) ∧ H' = [.box pb (tc ts (k + 3)), .box jb (jc { j with env := j.env ++ [x] } a c aN cN aL cL), .row a (j.env ++ [x]).length c 55 2 (ea (j.env ++ [x]))] ∧ gVar ts k j.env = .ok x ∧ k + 3 < ts.length)
      (fun v _ => ∃ f, gVar ts k j.env = .error f ∧ v = fv f) := by
  have hNm := fun full => name_p pb ts k full hk hT.len
  have hl := hT.len
  have hv := hT.vt k hk
  have eG : gVar ts k j.env = gName ts k (decide ((16 : Int) ≤ (j.env.length : Nat))) >>= fun t => if j.env.any (fun v => v.1 == t.text) = true then .error (flt 5 t) else gSign ts (k + 1) [61] >>= fun _ => gTake ts (k + 2) 3 512 >>= fun v => .ok (t.text, v.text) := by rw [dec16]; rfl
  rw [eG]
  clear eG
  unfold Tok.av at hNm
  have hNm' := Lib.hid hNm
  clear hNm
  unfold jc
  refine SpecP_of Tryz.func83 rfl ?_
  simp only [Tryz.ntmps83, List.length_cons, List.length_nil, List.replicate_succ, List.replicate_zero, List.cons_append, List.nil_append, Nat.reduceAdd, Nat.reduceSub]
  (repeat' (first | with_reducible (first | refine awp_seq ?_ | refine awp_region ?_ | refine awpL_nil ?_ | refine thenA_normal ?_ | refine thenA_panic ?_) | ((apply awpL_evl2 rfl); (case h => ((first | (apply Evl_k 0 rfl; (exact Evl_mv _ rfl)) | (apply Evl_k 4 rfl; (exact Evl_nil _ rfl (by first | exact .inl ⟨_, rfl⟩ | fail))) | (apply Evl_k 5 rfl; (exact Evl_field_x _ _ _ _ _ _ rfl rfl HFld.out)) | (apply Evl_k 6 rfl; (exact Evl_load _ _ _ _ _ _ _ _ rfl rfl FBox.out HAgg.out (by first | exact Nat.le_of_ble_eq_true rfl | fail) (by first | exact Nat.le_of_ble_eq_true rfl | fail))) | (apply Evl_x; (case hs => (intro _ _ h; cases h)); (case hx => rfl); (case hrun => (intro w; simp [wtb, AV.val, go_sem]; skip; rfl)))))); (case hT => ((try simp only [wtn]); rfl))) | (refine awpL_consP rfl ?_; refine StpP_call 51 Tryz.f51 [_] _ _ _ _ rfl rfl Tryz.func51 (by decide) rfl (List.Perm.refl _) (VwL.refl _ _) (hNm'.out _) ?_ ?_; (case' refine_1 => (rintro _ _ ⟨rfl, rfl, hp, hk1⟩; (apply awpL_cong; (case hT => ((try simp only [wtn]); rfl)); (case hH => ((try simp only [wtn]); rfl))))); (case' refine_2 => (rintro _ _ ⟨f, hp, rfl⟩))) | (refine awpL_cons rfl ?_; ((first | (refine Stp_k 14 rfl ?_; ((refine Stp_alloc _ _ rfl HZero.out rfl (fun b => ?_)))) | (refine Stp_k 16 rfl ?_; ((refine Stp_store _ _ _ _ _ _ _ rfl rfl FBox.out HSize.out (by first | rfl | fail) (by first | exact Nat.le_of_ble_eq_true rfl | fail) ?_)))); apply awpL_cong; (case hT => ((try simp only [wtn]); rfl)); (case hH => ((try simp only [wtn, Nat.reduceAdd]); rfl)))) | fail))
  · (repeat (with_reducible first | refine thenA_panic ?_ | fail)); refine endP_panic _ _ (Weak.mk' [] _ (List.Perm.refl _) (VwHs.refl _ _) VwL.nil) ?_
    exact ⟨f, by rw [hp]; rfl, rfl⟩
  have hk2 := hv (by omega)
  have hv2 := hT.vt (k + 1) hk2
  (repeat' (first | with_reducible (first | refine awp_seq ?_ | refine awp_region ?_ | refine awp_skip ?_ | refine awpL_nil ?_ | refine thenA_normal ?_ | refine thenA_panic ?_) | (refine awp_cond _ rfl (fun h => ?_) (fun h => ?_) <;> (skip; skip)) | ((apply awpL_evl2 rfl); (case h => ((first | (apply Evl_k 0 rfl; (exact Evl_mv _ rfl)) | (apply Evl_k 6 rfl; (exact Evl_load _ _ _ _ _ _ _ _ rfl rfl FBox.out HAgg.out (by first | exact Nat.le_of_ble_eq_true rfl | fail) (by first | exact Nat.le_of_ble_eq_true rfl | fail)))))); (case hT => ((try simp only [wtn, ↓reduceIte]); rfl))) | (refine awpL_consP rfl ?_; refine StpP_call 50 Tryz.f50 [] _ _ _ _ rfl rfl Tryz.func50 (by decide) rfl (List.Perm.refl _) (VwL.refl _ _) (fail_p _ ts[k]) ?_ ?_; (case refine_1 => (rintro _ _ ⟨⟩)); (case' refine_2 => (rintro _ _ ⟨rfl, rfl⟩))) | (refine awpL_consP rfl ?_; refine StpP_call 52 Tryz.f52 [_] _ _ _ _ rfl rfl Tryz.func52 (by decide) rfl (List.perm_middle (l₁ := [_])) (VwL.refl _ _) (sign_p pb ts (k + 1) [61] hk2 hl) ?_ ?_; (case' refine_1 => (rintro _ _ ⟨rfl, rfl, hs, hs2⟩; (apply awpL_cong; (case hT => ((try simp only [wtn]); rfl)); (case hH => ((try simp only [wtn, List.append_eq]); rfl))))); (case' refine_2 => (rintro _ _ ⟨f, hs, rfl⟩))) | (refine awpL_cons rfl ?_; (((refine Stp_k 11 rfl ?_; ((refine Stp_callX 125 Tryz.f125 [.box b [.x (.int .i64 ts[k].kind), .x (.string (bs ts[k].text)), .x (.int .i64 (ts[k].line : Nat)), .x (.int .i64 (ts[k].col : Nat))]] _ _ _ rfl rfl Tryz.func125 (by decide) rfl (List.Perm.refl _) (VwL.cons (Vw.row (List.Mem.tail _ (List.Mem.tail _ (List.Mem.head _))) (VwL.refl _ _)) (VwL.refl _ _)) (vcont_s j.env [.box b [.x (.int .i64 ts[k].kind), .x (.string (bs ts[k].text)), .x (.int .i64 (ts[k].line : Nat)), .x (.int .i64 (ts[k].col : Nat))]] 126 Tryz.f126 #[.pointer (some ⟨b, 0, none⟩)] (fun v => v.1 == ts[k].text) hj Tryz.func126 (by decide) rfl (fun v _ => vname_s b ts[k] v)) (by rintro _ _ ⟨rfl, rfl⟩; exact ⟨rfl, by simp [Hp.exb, isX]⟩) ?_; rintro _ _ ⟨rfl, rfl⟩)))); apply awpL_cong; (case hT => ((try simp only [wtn]); rfl)); (case hH => ((try simp only [wtn]); rfl)))) | fail))
  · (repeat (with_reducible first | refine thenA_panic ?_ | fail)); refine endP_panic _ _ (Weak.mk' [] _ (List.Perm.refl _) (VwHs.refl _ _) VwL.nil) ?_
    exact ⟨_, by rw [hp]; exact if_pos h, rfl⟩
  · (repeat (with_reducible first | refine thenA_panic ?_ | fail)); refine endP_panic _ _ (Weak.mk' [] _ (List.Perm.refl _) (VwHs.refl _ _) VwL.nil) ?_
    exact ⟨f, by rw [hp]; exact (if_neg (by rw [h]; decide)).trans (by rw [hs]; rfl), rfl⟩
  have hk3 : k + 2 < ts.length := comma_lt hT.vt (k + 1) hk2 hs2
  have hTx := text_p pb ts (k + 2) 3 512 hk3 hl
  have hv3 := hT.vt (k + 2) hk3
  refine awpP_drawn mixed [14] [.box b [.x (.int .i64 ts[k].kind), .x (.string (bs ts[k].text)), .x (.int .i64 (ts[k].line : Nat)), .x (.int .i64 (ts[k].col : Nat))], .box jb _] [.box pb _, .row aE _ _ _ _ _] (by (repeat' (first | exact List.Perm.refl _ | refine (List.perm_middle (l₁ := [_])).trans (List.Perm.cons _ ?_) | fail))) ?_
  (first | (apply awpP_takeI 0 rfl rfl (by kernel_rfl) (fun _ _ _ _ hp => hp); (case h => (exact WInd_mv _ rfl))) | fail); (apply awpP_cong; (case hT => ((try simp only [wtn]); rfl)); (case hH => rfl)); (first | (apply awpP_takeI 1 rfl rfl (by kernel_rfl) (fun _ _ _ _ hp => hp); (case h => (exact WInd_mv _ rfl))) | fail); (apply awpP_cong; (case hT => ((try simp only [wtn]); rfl)); (case hH => rfl)); (first | (apply awpP_takeI 2 rfl rfl (by kernel_rfl) (fun _ _ _ _ hp => hp); (case h => (exact WInd_nil _ _ _ rfl rfl))) | fail); (apply awpP_cong; (case hT => ((try simp only [wtn]); rfl)); (case hH => rfl)); (first | (apply awpP_takeI 3 rfl rfl (by kernel_rfl) (fun _ _ _ _ hp => hp); (case h => (exact WInd_field_x _ _ _ _ _ _ rfl rfl HFld.out))) | fail); (apply awpP_cong; (case hT => ((try simp only [wtn]); rfl)); (case hH => rfl)); (first | refine awpP_loadI 4 rfl rfl (by kernel_rfl) (fun _ _ _ _ hp => hp) _ _ _ _ _ _ _ _ rfl rfl FBox.out HAgg.out (by first | exact Nat.le_of_ble_eq_true rfl | fail) (by first | exact Nat.le_of_ble_eq_true rfl | fail) ?_ | fail); (apply awpP_cong; (case hT => ((try simp only [wtn]); rfl)); (case hH => rfl)); (first | (apply awpP_takeI 5 rfl rfl (by kernel_rfl) (fun _ _ _ _ hp => hp); (case h => (exact WInd_field_x _ _ _ _ _ _ rfl rfl HFld.out))) | fail); (apply awpP_cong; (case hT => ((try simp only [wtn]); rfl)); (case hH => rfl)); (first | refine awpP_loadI 6 rfl rfl (by kernel_rfl) (fun _ _ _ _ hp => hp) _ _ _ _ _ _ _ _ rfl rfl FBox.out HAgg.out (by first | exact Nat.le_of_ble_eq_true rfl | fail) (by first | exact Nat.le_of_ble_eq_true rfl | fail) ?_ | fail); (apply awpP_cong; (case hT => ((try simp only [wtn]); rfl)); (case hH => rfl)); (first | (apply awpP_takeI 7 rfl rfl (by kernel_rfl) (fun _ _ _ _ hp => hp); (case h => (exact WInd_mv _ rfl))) | fail); (apply awpP_cong; (case hT => ((try simp only [wtn]); rfl)); (case hH => rfl))
  (first | (refine awpP_1P 8 (by decide +kernel) rfl rfl ?_; refine StpP_call 82 Tryz.f82 [_] _ _ _ _ rfl rfl Tryz.func82 (by decide) rfl (List.Perm.refl _) (VwL.refl _ _) (hTx) ?_ ?_; (case' refine_1 => (rintro _ _ ⟨rfl, rfl, hx, hx2⟩; (apply awpP_cong; (case hT => ((try simp only [wtn]); rfl)); (case hH => ((try simp only [wtn]); rfl))))); (case' refine_2 => (rintro _ _ ⟨f, hx, rfl⟩))) | fail)
  · (repeat (with_reducible first | refine thenA_panic ?_ | fail)); refine endP_panic _ _ (Weak.mk' [] _ (List.Perm.refl _) (VwHs.refl _ _) VwL.nil) ?_
    exact ⟨f, by rw [hp]; exact (if_neg (by rw [h]; decide)).trans (by rw [hs]; simp only [bind, Except.bind, hx]), rfl⟩
  (refine awpP_1 9 (by decide +kernel) rfl rfl ?_; (first | (apply Stp_evl; (case h => ((apply Evl_k 10 rfl; (exact Evl_build _ _ _ _ _ rfl HPl.out (by first | rfl | fail) rfl)))); (apply awpP_cong; (case hT => ((try simp only [wtn, ↓reduceIte]); rfl)); (case hH => rfl))) | fail))
  (refine awpP_1 10 (by decide +kernel) rfl rfl ?_; (first | (((refine Stp_k 17 rfl ?_; ((refine Stp_buildSlice _ _ _ _ _ _ _ _ rfl HElem.out (by first | rfl | fail) rfl (by decide) rfl (fun b => ?_))))); apply awpP_cong; (case hT => ((try simp only [wtn]); rfl)); (case hH => ((try simp only [wtn, Nat.reduceAdd, Nat.reduceMul]); rfl))) | fail))
  (refine awpP_1 11 (by decide +kernel) rfl rfl ?_; (first | (((refine Stp_k 13 rfl ?_; ((refine Stp_append _ _ _ _ _ _ _ _ _ _ _ _ _ _ rfl rfl FRow.out (Src.row _ rfl FRow.out) HElem.out (by first | rfl | fail) (fits _ _ (by omega) (by decide)) (fun ad cap => ?_))))); apply awpP_cong; (case hT => ((try simp only [wtn]); rfl)); (case hH => ((try simp only [wtn, Nat.reduceAdd]); rfl))) | fail))
  (repeat ((first | refine awpP_1 12 (by decide +kernel) rfl rfl ?_ | refine awpP_1 13 (by decide +kernel) rfl rfl ?_ | fail); (first | (apply Stp_evl; (case h => (first | (apply Evl_k 4 rfl; (exact Evl_nil _ rfl (by first | exact .inl ⟨_, rfl⟩ | fail))) | (apply Evl_k 5 rfl; (exact Evl_field_x _ _ _ _ _ _ rfl rfl HFld.out)))); (apply awpP_cong; (case hT => ((try simp only [wtn]); rfl)); (case hH => rfl))) | fail)))
  refine awpP_rest (by decide +kernel) ?_
  refine awpA_cong rfl (by simp only [List.cons_append, List.nil_append]; rfl) ?_
  (refine awpA_1 14 (by decide +kernel) rfl rfl ?_; (first | (((refine Stp_k 16 rfl ?_; ((refine Stp_store _ _ _ _ _ _ _ rfl rfl FBox.out HSize.out (by first | rfl | fail) (by first | exact Nat.le_of_ble_eq_true rfl | fail) ?_)))); apply awpA_cong; (case hT => ((try simp only [wtn]); rfl)); (case hH => ((try simp only [wtn]); rfl))) | fail))
  refine awpA_done (by decide +kernel) ?_
  (repeat' (first | with_reducible (refine dr_nil ?_) | fail))
  refine endP_normal _ _ (Res0 rfl (Weak.mk' [.box _ [.x (.int .i64 ts[k].kind), .x (.string (bs ts[k].text)), .x (.int .i64 (ts[k].line : Nat)), .x (.int .i64 (ts[k].col : Nat))], .row (some _) 1 1 _ _ _] [.box pb _, .box jb _, .row ad _ cap _ _ _] (by (repeat' (first | exact List.Perm.refl _ | refine List.Perm.cons _ ?_ | refine (List.perm_middle (l₁ := [_])).trans (List.Perm.cons _ ?_) | fail))) (VwHs.refl _ _) VwL.nil)) ⟨(ts[k].text, ts[k + 2].text), ad, cap, rfl, ?_, ?_, ?_⟩
  · simp only [ea_app, List.length_append, List.length_cons, List.length_nil]; rfl
  · rw [hp]
    exact (if_neg (by rw [h]; decide)).trans (by rw [hs]; simp only [bind, Except.bind, hx])
  · exact hv3 (by omega)
end Go.Proofs.YtkhhlmonhapmaaaGreatDoor
namespace Go.Proofs.YtkhhlmonhapmaaaGreatDoor
open Go.RowKit
theorem gList_ok {α : Type} {el : Nat → List α → Except Flt α} {st : Nat} {ts : List Tok} {k : Nat} {out : List α} {a : α} (h : el k out = .ok a) : gList el st ts k out = if k + st < ts.length ∧ gIs ts (k + st) [44] = true then gList el st ts (k + st + 1) (out ++ [a]) else .ok (out ++ [a], k + st) := by
  rw [gList, h]
  simp only
  split <;> rfl
theorem gList_bad {α : Type} {el : Nat → List α → Except Flt α} {st : Nat} {ts : List Tok} {k : Nat} {out : List α} {f : Flt} (h : el k out = .error f) : gList el st ts k out = .error f := by
  rw [gList, h]
set_option maxRecDepth 100000 in
set_option maxHeartbeats 8000000 in
theorem list_p {α τ : Type} (pb : Nat) (ts : List Tok) (hT : TkOk ts) (f : Nat) (fn : Func) (cs : Array Value) (hf : Tryz.prog.funcs[f]? = some fn) (hnn : fn.name ≠ "runtime.NumGoroutine") (hb : fn.body.isSome = true) (Rest : τ → List Hp) (out : τ → List α) (el : Nat → List α → Except Flt α) (st : Nat) (Inv : Nat → τ → Prop)
    (hel : ∀ k x, k < ts.length → Inv k x → SpecP Tryz.prog f (.box pb (tc ts k) :: Rest x) (cs.toList.map .x) (fun r H' => r = .x (.tuple #[]) ∧ ∃ x' a, H' = .box pb (tc ts (k + st)) :: Rest x' ∧ el k (out x) = .ok a ∧ out x' = out x ++ [a] ∧ k + st < ts.length ∧ Inv (k + st) x') (fun v _ => ∃ e, el k (out x) = .error e ∧ v = fv e))
    (hInv : ∀ k x, Inv k x → Inv (k + 1) x) (k0 : Nat) (x0 : τ) (hk0 : k0 < ts.length) (h0 : Inv k0 x0) :
    SpecP Tryz.prog 84 (.box pb (tc ts k0) :: Rest x0) [.x (.pointer (some ⟨pb, 0, none⟩)), .x (.func (.func f) #[] cs)] (fun r H' => r = .x (.tuple #[]) ∧ ∃ k x, H' = .box pb (tc ts k) :: Rest x ∧ gList el st ts k0 (out x0) = .ok (out x, k) ∧ k < ts.length ∧ Inv k x ∧ k0 ≤ k) (fun v _ => ∃ e, gList el st ts k0 (out x0) = .error e ∧ v = fv e) := by
  have hel' := Lib.hid hel
  clear hel
  have hl := hT.len
  have hv' := fun k => comma_lt hT.vt (s := [44]) k
  have hv := Lib.hid hv'
  clear hv'
  refine SpecP_of Tryz.func84 rfl ?_
  simp only [Tryz.ntmps84, List.length_cons, List.length_nil, List.replicate_succ, List.replicate_zero, List.cons_append, List.nil_append, Nat.reduceAdd, Nat.reduceSub]
  (repeat' (first | with_reducible (first | refine awp_seq ?_ | refine awp_region ?_ | refine awp_block ?_ | refine awpL_nil ?_ | refine thenA_normal ?_ | refine thenA_panic ?_) | ((apply awpL_evl2 rfl); (case h => (((apply Evl_k 0 rfl; (exact Evl_mv _ rfl))))); (case hT => ((try simp (disch := omega) only [wtn, List.append_nil, List.append_eq, List.foldl_cons, List.foldl_nil, List.map_cons, List.map_nil, Nat.reduceAdd, Nat.reduceMul, Nat.reduceSub, ↓reduceIte, Nat.reduceEqDiff]); rfl))) | (refine awpL_consP rfl ?_; refine StpP_call f fn (_ :: _) [] _ _ _ rfl rfl hf hnn hb (by simp) (VwL.refl _ _) (hel'.out k0 x0 hk0 h0) ?_ ?_; (case' refine_1 => (rintro _ _ ⟨rfl, x1, a1, rfl, e1, e2, e3, e4⟩; (apply awpL_cong; (case hT => ((try simp (disch := omega) only [wtn, List.append_nil, List.append_eq, List.foldl_cons, List.foldl_nil, List.map_cons, List.map_nil, Nat.reduceAdd, Nat.reduceMul, Nat.reduceSub, ↓reduceIte, Nat.reduceEqDiff]); rfl)); (case hH => ((try simp (disch := omega) only [wtn, List.append_nil, List.append_eq, List.foldl_cons, List.foldl_nil, List.map_cons, List.map_nil, Nat.reduceAdd, Nat.reduceMul, Nat.reduceSub, ↓reduceIte, Nat.reduceEqDiff]); rfl))))); (case' refine_2 => (rintro _ _ ⟨f1, e1, rfl⟩))) | fail))
  · (repeat (with_reducible first | refine thenA_panic ?_ | fail)); refine endP_panic _ _ (Weak.mk' [] _ (List.Perm.refl _) (VwHs.refl _ _) VwL.nil) ?_
    exact ⟨f1, gList_bad e1, rfl⟩
  refine awp_loopS (S := Nat × τ) (fun s => frm 17 [(0, .x (.pointer (some ⟨pb, 0, none⟩))), (1, .x (.func (.func f) #[] cs))]) (fun s => .box pb (tc ts s.1) :: Rest s.2) (fun s => s.1 < ts.length ∧ Inv s.1 s.2 ∧ k0 ≤ s.1 ∧ gList el st ts k0 (out x0) = if s.1 < ts.length ∧ gIs ts s.1 [44] = true then gList el st ts (s.1 + 1) (out s.2) else .ok (out s.2, s.1)) (fun s => ts.length - s.1) (k0 + st, x1) (Weak.mk' [] _ (List.Perm.refl _) (VwHs.refl _ _) (by (repeat' (first | exact VwL.nil | (refine VwL.cons ?_ ?_) | exact Vw.refl _ | exact Vw.top _ | fail)))) ⟨e3, e4, Nat.le_add_right _ _, by rw [gList_ok e1, e2]⟩ fun s hs => ?_
  obtain ⟨k, x⟩ := s
  obtain ⟨g1, g2, g3, g4⟩ := hs
  simp only at g1 g2 g3 g4
  have g4' := Lib.hid g4
  clear g4 e1 e2
  simp only [frm, List.replicate_succ, List.replicate_zero, List.foldl_cons, List.foldl_nil, List.set_cons_zero, List.set_cons_succ]
  simp only [tc]
  (repeat' (first | with_reducible (first | refine awp_seq ?_ | refine awp_region ?_ | refine awp_block ?_ | refine awp_skip ?_ | refine awp_exit ?_ | refine awpL_nil ?_ | refine thenA_normal ?_ | refine thenA_exit ?_ | refine inBlockA_eq ?_ | refine inBlockA_normal ?_ | refine thenA_panic ?_ | refine inBlockA_panic ?_) | (refine awp_cond _ rfl (fun h => ?_) (fun h => ?_) <;> (skip; skip)) | ((apply awpL_evl2 rfl); (case h => ((first | (apply Evl_k 0 rfl; (exact Evl_mv _ rfl)) | (apply Evl_k 4 rfl; (exact Evl_nil _ rfl (by first | exact .inl ⟨_, rfl⟩ | fail))) | (apply Evl_k 5 rfl; (exact Evl_field_x _ _ _ _ _ _ rfl rfl HFld.out)) | (apply Evl_k 6 rfl; (exact Evl_load _ _ _ _ _ _ _ _ rfl rfl FBox.out HAgg.out (by first | exact Nat.le_of_ble_eq_true rfl | fail) (by first | exact Nat.le_of_ble_eq_true rfl | fail))) | (apply Evl_k 11 rfl; (exact Evl_callL 53 Tryz.f53 _ _ rfl rfl Tryz.func53 (by decide) rfl (by (repeat' (first | exact VwL.nil | (refine VwL.cons ?_ ?_) | exact Vw.refl _ | exact Vw.box (List.Mem.head _) (VwL.refl _ _) | fail)); done) (isSign_p ts k [44] g1 hl))) | (apply Evl_x; (case hs => (intro _ _ h; cases h)); (case hx => rfl); (case hrun => (intro w; simp [wtb, AV.val, go_sem]; (try go_bits); rfl)))))); (case hT => ((try simp (disch := omega) only [wtn, List.append_nil, List.append_eq, List.foldl_cons, List.foldl_nil, List.map_cons, List.map_nil, Nat.reduceAdd, Nat.reduceMul, Nat.reduceSub, ↓reduceIte, Nat.reduceEqDiff]); rfl))) | (refine awpL_consP rfl ?_; refine StpP_call f fn (_ :: _) [] _ _ _ rfl rfl hf hnn hb (by rw [List.append_nil]; exact List.Perm.refl _) (VwL.refl _ _) (hel'.out (k + 1) x (hv.out k g1 h) (hInv _ _ g2)) ?_ ?_; (case' refine_1 => (rintro _ _ ⟨rfl, x2, a2, rfl, e1, e2, e3, e4⟩; (apply awpL_cong; (case hT => ((try simp (disch := omega) only [wtn, List.append_nil, List.append_eq, List.foldl_cons, List.foldl_nil, List.map_cons, List.map_nil, Nat.reduceAdd, Nat.reduceMul, Nat.reduceSub, ↓reduceIte, Nat.reduceEqDiff]); rfl)); (case hH => ((try simp (disch := omega) only [wtn, List.append_nil, List.append_eq, List.foldl_cons, List.foldl_nil, List.map_cons, List.map_nil, Nat.reduceAdd, Nat.reduceMul, Nat.reduceSub, ↓reduceIte, Nat.reduceEqDiff]); rfl))))); (case' refine_2 => (rintro _ _ ⟨f1, e1, rfl⟩))) | (refine awpL_cons rfl ?_; (((refine Stp_k 16 rfl ?_; ((refine Stp_store _ _ _ _ _ _ _ rfl rfl FBox.out HSize.out (by first | rfl | fail) (by first | exact Nat.le_of_ble_eq_true rfl | fail) ?_)))); apply awpL_cong; (case hT => ((try simp (disch := omega) only [wtn, List.append_nil, List.append_eq, List.foldl_cons, List.foldl_nil, List.map_cons, List.map_nil, Nat.reduceAdd, Nat.reduceMul, Nat.reduceSub, ↓reduceIte, Nat.reduceEqDiff]); rfl)); (case hH => ((try simp (disch := omega) only [wtn, List.append_nil, List.append_eq, List.foldl_cons, List.foldl_nil, List.map_cons, List.map_nil, Nat.reduceAdd, Nat.reduceMul, Nat.reduceSub, ↓reduceIte, Nat.reduceEqDiff]); rfl)))) | fail))
  · (repeat (with_reducible first | refine thenA_panic ?_ | fail)); refine endP_panic _ _ (Weak.mk' [] _ (List.Perm.refl _) (VwHs.refl _ _) VwL.nil) ?_
    exact ⟨f1, g4'.out.trans ((if_pos ⟨g1, h⟩).trans (gList_bad e1)), rfl⟩
  · exact ⟨(k + 1 + st, x2), by simp only; omega, ⟨e3, e4, by simp only; omega, g4'.out.trans ((if_pos ⟨g1, h⟩).trans (by rw [gList_ok e1, e2]))⟩, (Weak.mk' [] _ (List.Perm.refl _) (VwHs.refl _ _) (by (repeat' (first | exact VwL.nil | (refine VwL.cons ?_ ?_) | exact Vw.refl _ | exact Vw.top _ | fail))))⟩
  · exact endP_normal _ _ (Res0 rfl (Weak.mk' [] _ (List.Perm.refl _) (VwHs.refl _ _) VwL.nil)) ⟨rfl, k, x, rfl, g4'.out.trans (if_neg (by rw [h]; simp)), g1, g2, g3⟩
set_option maxRecDepth 100000 in
set_option maxHeartbeats 8000000 in
theorem item1_p (pb jb t3 t5 : Nat) (ts : List Tok) (k : Nat) (j : JF) (aE : Option Addr) (cE : Nat) (aN : Option Addr) (cN : Nat) (aL : Option Addr) (cL : Nat) (hk : k < ts.length) (hT : TkOk ts) (hj : j.needs.length ≤ 1000000) :
    SpecP Tryz.prog 85 (.box pb (tc ts k) :: (fun x : JF × Option Addr × Nat => [.box jb (jc x.1 aE cE x.2.1 x.2.2 aL cL), .row x.2.1 x.1.needs.length x.2.2 9 1 (sa x.1.needs), .box t3 [.x (.pointer (some ⟨pb, 0, none⟩))], .box t5 [.x (.pointer (some ⟨jb, 0, none⟩))]]) (j, aN, cN)) [.x (.pointer (some ⟨t3, 0, none⟩)), .x (.pointer (some ⟨t5, 0, none⟩))]
      (fun r H' => r = .x (.tuple #[]) ∧ ∃ x a c, H' = .box pb (tc ts (k + 1)) :: (fun x : JF × Option Addr × Nat => [.box jb (jc x.1 aE cE x.2.1 x.2.2 aL cL), .row x.2.1 x.1.needs.length x.2.2 9 1 (sa x.1.needs), .box t3 [.x (.pointer (some ⟨pb, 0, none⟩))], .box t5 [.x (.pointer (some ⟨jb, 0, none⟩))]]) ({ j with needs := j.needs ++ [x] }, a, c) ∧ gNeed ts k j.needs = .ok x ∧ k + 1 < ts.length)
      (fun v _ => ∃ f, gNeed ts k j.needs = .error f ∧ v = fv f) := by
  have hN := need_p pb jb ts k j aE cE aN cN aL cL hk hT hj
  simp only
  refine SpecP_of Tryz.func85 rfl ?_
  simp only [Tryz.ntmps85, List.length_cons, List.length_nil, List.replicate_succ, List.replicate_zero, List.cons_append, List.nil_append, Nat.reduceAdd, Nat.reduceSub]
  (repeat' (first | with_reducible (first | refine awp_region ?_ | refine awpL_nil ?_) | ((apply awpL_evl2 rfl); (case h => (((apply Evl_k 6 rfl; (exact Evl_load _ _ _ _ _ _ _ _ rfl rfl FBox.out HAgg.out (by first | exact Nat.le_of_ble_eq_true rfl | fail) (by first | exact Nat.le_of_ble_eq_true rfl | fail)))))); (case hT => ((try simp only [wtn]); rfl))) | (refine awpL_consP rfl ?_; refine StpP_call 86 Tryz.f86 [_, _, _] _ _ _ _ rfl rfl Tryz.func86 (by decide) rfl (List.Perm.refl _) (VwL.refl _ _) (hN) ?_ ?_; (case' refine_1 => (rintro _ _ ⟨x, a, c, rfl, rfl, hx, hk2⟩; (apply awpL_cong; (case hT => ((try simp only [wtn]); rfl)); (case hH => ((try simp only [wtn]); rfl))))); (case' refine_2 => (rintro _ _ ⟨f, hx, rfl⟩))) | fail))
  · (repeat (with_reducible first | refine thenA_panic ?_ | fail)); refine endP_panic _ _ (Weak.mk' [] _ (List.Perm.refl _) (VwHs.refl _ _) VwL.nil) ?_
    exact ⟨f, hx, rfl⟩
  · exact endP_normal _ _ (Res0 rfl (Weak.mk' [] _ (List.Perm.refl _) (VwHs.refl _ _) VwL.nil)) ⟨rfl, x, a, c, rfl, hx, hk2⟩
set_option maxRecDepth 100000 in
set_option maxHeartbeats 8000000 in
theorem item2_p (pb jb t3 t5 : Nat) (ts : List Tok) (k : Nat) (j : JF) (aE : Option Addr) (cE : Nat) (aN : Option Addr) (cN : Nat) (aL : Option Addr) (cL : Nat) (hk : k < ts.length) (hT : TkOk ts) (hj : j.ladder.length ≤ 1000000) :
    SpecP Tryz.prog 90 (.box pb (tc ts k) :: (fun x : JF × Option Addr × Nat => [.box jb (jc x.1 aE cE aN cN x.2.1 x.2.2), .row x.2.1 x.1.ladder.length x.2.2 53 2 (ra x.1.ladder), .box t3 [.x (.pointer (some ⟨pb, 0, none⟩))], .box t5 [.x (.pointer (some ⟨jb, 0, none⟩))]]) (j, aL, cL)) [.x (.pointer (some ⟨t3, 0, none⟩)), .x (.pointer (some ⟨t5, 0, none⟩))]
      (fun r H' => r = .x (.tuple #[]) ∧ ∃ x a c, H' = .box pb (tc ts (k + 2)) :: (fun x : JF × Option Addr × Nat => [.box jb (jc x.1 aE cE aN cN x.2.1 x.2.2), .row x.2.1 x.1.ladder.length x.2.2 53 2 (ra x.1.ladder), .box t3 [.x (.pointer (some ⟨pb, 0, none⟩))], .box t5 [.x (.pointer (some ⟨jb, 0, none⟩))]]) ({ j with ladder := j.ladder ++ [x] }, a, c) ∧ gRung ts k j.ladder = .ok x ∧ k + 2 < ts.length)
      (fun v _ => ∃ f, gRung ts k j.ladder = .error f ∧ v = fv f) := by
  have hN := rung_p pb jb ts k j aE cE aN cN aL cL hk hT hj
  simp only
  refine SpecP_of Tryz.func90 rfl ?_
  simp only [Tryz.ntmps90, List.length_cons, List.length_nil, List.replicate_succ, List.replicate_zero, List.cons_append, List.nil_append, Nat.reduceAdd, Nat.reduceSub]
  (repeat' (first | with_reducible (first | refine awp_region ?_ | refine awpL_nil ?_) | ((apply awpL_evl2 rfl); (case h => (((apply Evl_k 6 rfl; (exact Evl_load _ _ _ _ _ _ _ _ rfl rfl FBox.out HAgg.out (by first | exact Nat.le_of_ble_eq_true rfl | fail) (by first | exact Nat.le_of_ble_eq_true rfl | fail)))))); (case hT => ((try simp only [wtn]); rfl))) | (refine awpL_consP rfl ?_; refine StpP_call 91 Tryz.f91 [_, _, _] _ _ _ _ rfl rfl Tryz.func91 (by decide) rfl (List.Perm.refl _) (VwL.refl _ _) (hN) ?_ ?_; (case' refine_1 => (rintro _ _ ⟨x, a, c, rfl, rfl, hx, hk2⟩; (apply awpL_cong; (case hT => ((try simp only [wtn]); rfl)); (case hH => ((try simp only [wtn]); rfl))))); (case' refine_2 => (rintro _ _ ⟨f, hx, rfl⟩))) | fail))
  · (repeat (with_reducible first | refine thenA_panic ?_ | fail)); refine endP_panic _ _ (Weak.mk' [] _ (List.Perm.refl _) (VwHs.refl _ _) VwL.nil) ?_
    exact ⟨f, hx, rfl⟩
  · exact endP_normal _ _ (Res0 rfl (Weak.mk' [] _ (List.Perm.refl _) (VwHs.refl _ _) VwL.nil)) ⟨rfl, x, a, c, rfl, hx, hk2⟩
theorem needsList_p (pb jb t3 t5 : Nat) (ts : List Tok) (k : Nat) (j : JF) (aE : Option Addr) (cE : Nat) (aN : Option Addr) (cN : Nat) (aL : Option Addr) (cL : Nat) (hk : k < ts.length) (hT : TkOk ts) (hj : j.needs.length ≤ k) :
    SpecP Tryz.prog 84 (.box pb (tc ts k) :: (fun x : JF × Option Addr × Nat => [.box jb (jc x.1 aE cE x.2.1 x.2.2 aL cL), .row x.2.1 x.1.needs.length x.2.2 9 1 (sa x.1.needs), .box t3 [.x (.pointer (some ⟨pb, 0, none⟩))], .box t5 [.x (.pointer (some ⟨jb, 0, none⟩))]]) (j, aN, cN)) [.x (.pointer (some ⟨pb, 0, none⟩)), .x (.func (.func 85) #[] #[.pointer (some ⟨t3, 0, none⟩), .pointer (some ⟨t5, 0, none⟩)])]
      (fun r H' => r = .x (.tuple #[]) ∧ ∃ k1 ns a c, H' = .box pb (tc ts k1) :: (fun x : JF × Option Addr × Nat => [.box jb (jc x.1 aE cE x.2.1 x.2.2 aL cL), .row x.2.1 x.1.needs.length x.2.2 9 1 (sa x.1.needs), .box t3 [.x (.pointer (some ⟨pb, 0, none⟩))], .box t5 [.x (.pointer (some ⟨jb, 0, none⟩))]]) ({ j with needs := ns }, a, c) ∧ gList (gNeed ts) 1 ts k j.needs = .ok (ns, k1) ∧ k1 < ts.length ∧ ns.length ≤ k1 ∧ k ≤ k1)
      (fun v _ => ∃ f, gList (gNeed ts) 1 ts k j.needs = .error f ∧ v = fv f) := by
  have h := list_p (τ := JF × Option Addr × Nat) pb ts hT 85 Tryz.f85 #[.pointer (some ⟨t3, 0, none⟩), .pointer (some ⟨t5, 0, none⟩)] Tryz.func85 (by decide) rfl (fun x : JF × Option Addr × Nat => [.box jb (jc x.1 aE cE x.2.1 x.2.2 aL cL), .row x.2.1 x.1.needs.length x.2.2 9 1 (sa x.1.needs), .box t3 [.x (.pointer (some ⟨pb, 0, none⟩))], .box t5 [.x (.pointer (some ⟨jb, 0, none⟩))]]) (fun x => x.1.needs) (gNeed ts) 1 (fun q x => x.1.needs.length ≤ q ∧ ∃ ns, x.1 = { j with needs := ns })
    (fun q x hq ⟨h1, ns, h2⟩ => ((item1_p pb jb t3 t5 ts q x.1 aE cE x.2.1 x.2.2 aL cL hq hT (by have := hT.len; omega)).mono (fun r H' ⟨g1, y, a, c, g2, g3, g4⟩ => ⟨g1, ({ x.1 with needs := x.1.needs ++ [y] }, a, c), y, g2, g3, rfl, g4, by simp; omega, _, by rw [h2]⟩) (fun v H' h => h)))
    (fun q x ⟨h1, h2⟩ => ⟨by omega, h2⟩) k (j, aN, cN) hk ⟨hj, j.needs, rfl⟩
  refine h.mono (fun r H' ⟨g1, k1, x, g2, g3, g4, ⟨g5, ns, g6⟩, g7⟩ => ?_) (fun v H' h => h)
  obtain ⟨x1, a, c⟩ := x
  simp only at g2 g3 g5 g6
  subst g6
  exact ⟨g1, k1, ns, a, c, g2, g3, g4, g5, g7⟩
theorem rungList_p (pb jb t3 t5 : Nat) (ts : List Tok) (k : Nat) (j : JF) (aE : Option Addr) (cE : Nat) (aN : Option Addr) (cN : Nat) (aL : Option Addr) (cL : Nat) (hk : k < ts.length) (hT : TkOk ts) (hj : j.ladder.length ≤ k) :
    SpecP Tryz.prog 84 (.box pb (tc ts k) :: (fun x : JF × Option Addr × Nat => [.box jb (jc x.1 aE cE aN cN x.2.1 x.2.2), .row x.2.1 x.1.ladder.length x.2.2 53 2 (ra x.1.ladder), .box t3 [.x (.pointer (some ⟨pb, 0, none⟩))], .box t5 [.x (.pointer (some ⟨jb, 0, none⟩))]]) (j, aL, cL)) [.x (.pointer (some ⟨pb, 0, none⟩)), .x (.func (.func 90) #[] #[.pointer (some ⟨t3, 0, none⟩), .pointer (some ⟨t5, 0, none⟩)])]
      (fun r H' => r = .x (.tuple #[]) ∧ ∃ k1 ns a c, H' = .box pb (tc ts k1) :: (fun x : JF × Option Addr × Nat => [.box jb (jc x.1 aE cE aN cN x.2.1 x.2.2), .row x.2.1 x.1.ladder.length x.2.2 53 2 (ra x.1.ladder), .box t3 [.x (.pointer (some ⟨pb, 0, none⟩))], .box t5 [.x (.pointer (some ⟨jb, 0, none⟩))]]) ({ j with ladder := ns }, a, c) ∧ gList (gRung ts) 2 ts k j.ladder = .ok (ns, k1) ∧ k1 < ts.length ∧ ns.length ≤ k1 ∧ k ≤ k1)
      (fun v _ => ∃ f, gList (gRung ts) 2 ts k j.ladder = .error f ∧ v = fv f) := by
  have h := list_p (τ := JF × Option Addr × Nat) pb ts hT 90 Tryz.f90 #[.pointer (some ⟨t3, 0, none⟩), .pointer (some ⟨t5, 0, none⟩)] Tryz.func90 (by decide) rfl (fun x : JF × Option Addr × Nat => [.box jb (jc x.1 aE cE aN cN x.2.1 x.2.2), .row x.2.1 x.1.ladder.length x.2.2 53 2 (ra x.1.ladder), .box t3 [.x (.pointer (some ⟨pb, 0, none⟩))], .box t5 [.x (.pointer (some ⟨jb, 0, none⟩))]]) (fun x => x.1.ladder) (gRung ts) 2 (fun q x => x.1.ladder.length ≤ q ∧ ∃ ns, x.1 = { j with ladder := ns })
    (fun q x hq ⟨h1, ns, h2⟩ => ((item2_p pb jb t3 t5 ts q x.1 aE cE aN cN x.2.1 x.2.2 hq hT (by have := hT.len; omega)).mono (fun r H' ⟨g1, y, a, c, g2, g3, g4⟩ => ⟨g1, ({ x.1 with ladder := x.1.ladder ++ [y] }, a, c), y, g2, g3, rfl, g4, by simp; omega, _, by rw [h2]⟩) (fun v H' h => h)))
    (fun q x ⟨h1, h2⟩ => ⟨by omega, h2⟩) k (j, aL, cL) hk ⟨hj, j.ladder, rfl⟩
  refine h.mono (fun r H' ⟨g1, k1, x, g2, g3, g4, ⟨g5, ns, g6⟩, g7⟩ => ?_) (fun v H' h => h)
  obtain ⟨x1, a, c⟩ := x
  simp only at g2 g3 g5 g6
  subst g6
  exact ⟨g1, k1, ns, a, c, g2, g3, g4, g5, g7⟩
end Go.Proofs.YtkhhlmonhapmaaaGreatDoor
