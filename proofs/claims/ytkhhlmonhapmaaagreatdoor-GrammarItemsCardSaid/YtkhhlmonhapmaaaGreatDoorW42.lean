import Derived.Test.YtkhhlmonhapmaaaGreatDoorW40
import Derived.Test.YtkhhlmonhapmaaaGreatDoorW41
import Derived.Test.YtkhhlmonhapmaaaGreatDoorW30
/- The program's lexer: All. -/
namespace Go.Proofs.YtkhhlmonhapmaaaGreatDoor
open Go.RowKit
set_option linter.unusedSimpArgs false
set_option linter.unusedVariables false
set_option maxRecDepth 100000 in
set_option maxHeartbeats 8000000 in
theorem lall_long (l : List UInt8) (hl : l.length ≤ 1000000) (h8 : 8192 < l.length) : Spec Tryz.prog 31 [] [.x (.string (bs l))] (fun r H' => r = .tup [.sq 0 [], .x (.agg #[.int .i64 1, .int .i64 0, .int .i64 0])] ∧ H' = []) := by
  refine Spec_of Tryz.func31 rfl ?_
  simp only [Tryz.ntmps31, List.length_cons, List.length_nil, List.replicate_succ, List.replicate_zero, List.cons_append, List.nil_append, Nat.reduceAdd, Nat.reduceSub]
  (repeat' (first | with_reducible (first | refine awp_seq ?_ | refine awp_region ?_ | refine awp_ret ?_ | refine awpL_nil ?_ | refine thenA_normal ?_ | refine thenA_ret ?_) | (refine awp_cond _ rfl (fun h => ?_) (fun h => ?_) <;> ((try (simp only [whn] at h)); first | (exfalso; omega; done) | skip)) | ((apply awpL_evl2 rfl); (case h => ((first | (apply Evl_k 0 rfl; (first | exact Evl_mv _ rfl | exact Evl_as _ rfl)) | (apply Evl_k 10 rfl; (exact Evl_build _ _ _ _ _ rfl HPl.out (by first | rfl | fail) rfl)) | (apply Evl_x; (case hs => (intro _ _ h; cases h)); (case hx => rfl); (case hrun => (intro w; simp [wtb, AV.val, go_sem]; skip; rfl)))))); (case hT => ((try simp only [wtn, ↓reduceIte]); rfl))) | (refine awpL_cons rfl ?_; ((first | (refine Stp_k 14 rfl ?_; ((refine Stp_alloc _ _ rfl HZero.out rfl (fun b => ?_)))) | (refine Stp_k 16 rfl ?_; ((refine Stp_store _ _ _ _ _ _ _ rfl rfl FBox.out HSize.out (by first | rfl | fail) (by first | exact Nat.le_of_ble_eq_true rfl | fail) ?_)))); apply awpL_cong; (case hT => ((try simp only [wtn]); rfl)); (case hH => ((try simp only [wtn, Nat.reduceAdd]); rfl)))) | fail))
  refine endA_ret _ _ (Res2 rfl (RV.tmp _) (RV.cell 0 rfl rfl HAgg.out (by simp) (by simp)) (Weak.mk' [_] [] (List.Perm.refl _) VwHs.nil (VwL.cons Vw.nil (VwL.refl _ _)))) ?_
  exact ⟨rfl, rfl⟩
set_option maxRecDepth 100000 in
set_option maxHeartbeats 8000000 in
theorem lall_ok (l : List UInt8) (h8 : l.length ≤ 8192) (ts : List Tok) (hs : Spec Tryz.prog 47 [] [.x (.string (bs l))] (fun q H' => q = .tup [.sq ts.length (ta ts), .x .nilIface] ∧ H' = [])) : Spec Tryz.prog 31 [] [.x (.string (bs l))] (fun r H' => r = .tup [.sq ts.length (ta ts), .x (.agg #[.int .i64 0, .int .i64 0, .int .i64 0])] ∧ H' = []) := by
  refine Spec_of Tryz.func31 rfl ?_
  simp only [Tryz.ntmps31, List.length_cons, List.length_nil, List.replicate_succ, List.replicate_zero, List.cons_append, List.nil_append, Nat.reduceAdd, Nat.reduceSub]
  (repeat' (first | with_reducible (first | refine awp_seq ?_ | refine awp_region ?_ | refine awp_ret ?_ | refine awp_skip ?_ | refine awpL_nil ?_ | refine thenA_normal ?_ | refine thenA_ret ?_) | (refine awp_cond _ rfl (fun h => ?_) (fun h => ?_) <;> first | (exact absurd h (by decide)) | ((try (simp only [whn] at h)); first | (exfalso; omega; done) | skip)) | ((apply awpL_evl2 rfl); (case h => ((first | (apply Evl_k 0 rfl; (first | exact Evl_mv _ rfl | exact Evl_as _ rfl)) | (apply Evl_k 2 rfl; (exact Evl_extract _ _ _ _ rfl rfl rfl)) | (apply Evl_k 10 rfl; (exact Evl_build _ _ _ _ _ rfl HPl.out (by first | rfl | fail) rfl)) | (apply Evl_k 11 rfl; (exact Evl_call 47 Tryz.f47 _ _ rfl rfl Tryz.func47 (by decide) rfl (VwL.refl _ _) (hs))) | (apply Evl_x; (case hs => (intro _ _ h; cases h)); (case hx => rfl); (case hrun => (intro w; simp [wtb, AV.val, go_sem]; skip; rfl)))))); (case hT => ((try simp only [wtn, ↓reduceIte]); rfl))) | (refine awpL_cons rfl ?_; ((first | (refine Stp_k 14 rfl ?_; ((refine Stp_alloc _ _ rfl HZero.out rfl (fun b => ?_)))) | (refine Stp_k 16 rfl ?_; ((refine Stp_store _ _ _ _ _ _ _ rfl rfl FBox.out HSize.out (by first | rfl | fail) (by first | exact Nat.le_of_ble_eq_true rfl | fail) ?_)))); apply awpL_cong; (case hT => ((try simp only [wtn]); rfl)); (case hH => ((try simp only [wtn, Nat.reduceAdd]); rfl)))) | fail))
  refine endA_ret _ _ (Res2 rfl (RV.tmp _) (RV.cell 0 rfl rfl HAgg.out (by simp) (by simp)) (Weak.mk' [_] [] (List.Perm.refl _) VwHs.nil (VwL.refl _ _))) ?_
  exact ⟨rfl, rfl⟩
set_option maxRecDepth 100000 in
set_option maxHeartbeats 8000000 in
theorem lall_bad (l : List UInt8) (h8 : l.length ≤ 8192) (c : Int) (x y : Int) (hs : Spec Tryz.prog 47 [] [.x (.string (bs l))] (fun q H' => ∃ b, q = .tup [.x (.slice none 0 0), .x (.iface 88 (.pointer (some ⟨b, 0, none⟩)))] ∧ H' = [.box b [.x (.int .i64 x), .x (.int .i64 y), .x (.iface 85 (.int .i64 c))]])) : Spec Tryz.prog 31 [] [.x (.string (bs l))] (fun r H' => r = .tup [.sq 0 [], .x (.agg #[.int .i64 c, .int .i64 x, .int .i64 y])] ∧ H' = []) := by
  refine Spec_of Tryz.func31 rfl ?_
  simp only [Tryz.ntmps31, List.length_cons, List.length_nil, List.replicate_succ, List.replicate_zero, List.cons_append, List.nil_append, Nat.reduceAdd, Nat.reduceSub]
  (repeat' (first | with_reducible (first | refine awp_seq ?_ | refine awp_region ?_ | refine awp_skip ?_ | refine awpL_nil ?_ | refine thenA_normal ?_) | (refine awp_cond _ rfl (fun h => ?_) (fun h => ?_) <;> first | (exact absurd h (by decide)) | ((try (simp only [whn] at h)); first | (exfalso; omega; done) | skip)) | ((apply awpL_evl2 rfl); (case h => ((first | (apply Evl_k 0 rfl; (first | exact Evl_mv _ rfl | exact Evl_as _ rfl)) | (apply Evl_k 2 rfl; (exact Evl_extract _ _ _ _ rfl rfl rfl)) | (apply Evl_k 5 rfl; (exact Evl_field_x _ _ _ _ _ _ rfl rfl HFld.out)) | (apply Evl_k 6 rfl; (exact Evl_load _ _ _ _ _ _ _ _ rfl rfl FBox.out HAgg.out (by first | exact Nat.le_of_ble_eq_true rfl | fail) (by first | exact Nat.le_of_ble_eq_true rfl | fail))) | (apply Evl_x; (case hs => (intro _ _ h; cases h)); (case hx => rfl); (case hrun => (intro w; simp [wtb, AV.val, go_sem]; skip; rfl)))))); (case hT => ((try simp only [wtn]); rfl))) | (refine awpL_cons rfl ?_; ((first | (refine Stp_k 11 rfl ?_; (first | (refine Stp_call 47 Tryz.f47 ([]) _ _ _ rfl rfl Tryz.func47 (by decide) rfl (List.Perm.refl _) (VwL.refl _ _) (hs) ?_; rintro _ _ ⟨b2, rfl, rfl⟩) | (refine Stp_call 48 Tryz.f48 [_, _] [_, _] _ _ rfl rfl Tryz.func48 (by decide) rfl (List.Perm.cons _ (List.Perm.swap _ _ _)) (VwL.refl _ _) (as_code_s _ _ _ _ _ _ []) ?_; rintro _ _ ⟨rfl, rfl⟩) | (refine Stp_call 48 Tryz.f48 [_] _ _ _ rfl rfl Tryz.func48 (by decide) rfl (List.Perm.refl _) (VwL.refl _ _) (as_place_s _ _ _ []) ?_; rintro _ _ ⟨rfl, rfl⟩))) | (refine Stp_k 14 rfl ?_; ((refine Stp_alloc _ _ rfl HZero.out rfl (fun b => ?_)))) | (refine Stp_k 16 rfl ?_; ((refine Stp_store _ _ _ _ _ _ _ rfl rfl FBox.out HSize.out (by first | rfl | fail) (by first | exact Nat.le_of_ble_eq_true rfl | fail) ?_)))); apply awpL_cong; (case hT => ((try simp only [wtn]); rfl)); (case hH => ((try simp only [wtn, Nat.reduceAdd]); rfl)))) | fail))
  refine awpP_drawn mixed [] [_, _] _ (List.Perm.cons _ (List.Perm.swap _ _ _)) ?_
  (first | refine awpP_load 0 rfl rfl (by kernel_rfl) (by intro c T H hp; simp [thenA, inBlockA, jumpA, endA] at hp) _ _ _ _ _ _ _ _ rfl rfl FBox.out HAgg.out (by first | exact Nat.le_of_ble_eq_true rfl | fail) (by first | exact Nat.le_of_ble_eq_true rfl | fail) ?_ | fail); (apply awpP_cong; (case hT => ((try simp only [wtn]); rfl)); (case hH => rfl)); (first | (apply awpP_take 1 rfl rfl (by kernel_rfl) (by intro c T H hp; simp [thenA, inBlockA, jumpA, endA] at hp); (case h => (exact WInd_nil _ _ _ rfl rfl))) | fail); (apply awpP_cong; (case hT => ((try simp only [wtn]); rfl)); (case hH => rfl)); (first | (apply awpP_take 2 rfl rfl (by kernel_rfl) (by intro c T H hp; simp [thenA, inBlockA, jumpA, endA] at hp); (case h => (exact WInd_field_x _ _ _ _ _ _ rfl rfl HFld.out))) | fail); (apply awpP_cong; (case hT => ((try simp only [wtn]); rfl)); (case hH => rfl)); (first | refine awpP_load 3 rfl rfl (by kernel_rfl) (by intro c T H hp; simp [thenA, inBlockA, jumpA, endA] at hp) _ _ _ _ _ _ _ _ rfl rfl FBox.out HAgg.out (by first | exact Nat.le_of_ble_eq_true rfl | fail) (by first | exact Nat.le_of_ble_eq_true rfl | fail) ?_ | fail); (apply awpP_cong; (case hT => ((try simp only [wtn]); rfl)); (case hH => rfl)); (first | refine awpP_load 4 rfl rfl (by kernel_rfl) (by intro c T H hp; simp [thenA, inBlockA, jumpA, endA] at hp) _ _ _ _ _ _ _ _ rfl rfl FBox.out HAgg.out (by first | exact Nat.le_of_ble_eq_true rfl | fail) (by first | exact Nat.le_of_ble_eq_true rfl | fail) ?_ | fail); (apply awpP_cong; (case hT => ((try simp only [wtn]); rfl)); (case hH => rfl)); (first | (apply awpP_take 5 rfl rfl (by kernel_rfl) (by intro c T H hp; simp [thenA, inBlockA, jumpA, endA] at hp); (case h => (exact WInd_nil _ _ _ rfl rfl))) | fail); (apply awpP_cong; (case hT => ((try simp only [wtn]); rfl)); (case hH => rfl)); (first | (apply awpP_take 6 rfl rfl (by kernel_rfl) (by intro c T H hp; simp [thenA, inBlockA, jumpA, endA] at hp); (case h => (exact WInd_field_x _ _ _ _ _ _ rfl rfl HFld.out))) | fail); (apply awpP_cong; (case hT => ((try simp only [wtn]); rfl)); (case hH => rfl)); (first | refine awpP_load 7 rfl rfl (by kernel_rfl) (by intro c T H hp; simp [thenA, inBlockA, jumpA, endA] at hp) _ _ _ _ _ _ _ _ rfl rfl FBox.out HAgg.out (by first | exact Nat.le_of_ble_eq_true rfl | fail) (by first | exact Nat.le_of_ble_eq_true rfl | fail) ?_ | fail); (apply awpP_cong; (case hT => ((try simp only [wtn]); rfl)); (case hH => rfl)); (first | (apply awpP_take 8 rfl rfl (by kernel_rfl) (by intro c T H hp; simp [thenA, inBlockA, jumpA, endA] at hp); (case h => (exact WInd_field_x _ _ _ _ _ _ rfl rfl HFld.out))) | fail); (apply awpP_cong; (case hT => ((try simp only [wtn]); rfl)); (case hH => rfl))
  (repeat ((first | refine awpP_1 9 (by decide +kernel) rfl rfl ?_ | refine awpP_1 10 (by decide +kernel) rfl rfl ?_ | refine awpP_1 11 (by decide +kernel) rfl rfl ?_ | fail); (first | (apply Stp_evl; (case h => ((apply Evl_k 5 rfl; (exact Evl_field_x _ _ _ _ _ _ rfl rfl HFld.out)))); (apply awpP_cong; (case hT => ((try simp only [wtn]); rfl)); (case hH => rfl))) | (((refine Stp_k 16 rfl ?_; ((refine Stp_store _ _ _ _ _ _ _ rfl rfl FBox.out HSize.out (by first | rfl | fail) (by first | exact Nat.le_of_ble_eq_true rfl | fail) ?_)))); apply awpP_cong; (case hT => ((try simp only [wtn]); rfl)); (case hH => ((try simp only [wtn]); rfl))) | fail)))
  refine awpP_rest (by decide +kernel) ?_
  refine awpA_cong rfl (by simp only [List.cons_append, List.nil_append]; rfl) ?_
  refine awpA_done (by decide +kernel) ?_
  (repeat' (first | with_reducible (first | refine awp_seq ?_ | refine thenA_normal ?_) | fail))
  refine awpP_drawn mixed [] [_] [_, _, _, _] (List.perm_middle (l₁ := [_, _, _])) ?_
  (first | refine awpP_load 0 rfl rfl (by kernel_rfl) (by intro c T H hp; simp [thenA, inBlockA, jumpA, endA] at hp) _ _ _ _ _ _ _ _ rfl rfl FBox.out HAgg.out (by first | exact Nat.le_of_ble_eq_true rfl | fail) (by first | exact Nat.le_of_ble_eq_true rfl | fail) ?_ | fail); (apply awpP_cong; (case hT => ((try simp only [wtn, ↓reduceIte]); rfl)); (case hH => rfl)); (first | (apply awpP_take 1 rfl rfl (by kernel_rfl) (by intro c T H hp; simp [thenA, inBlockA, jumpA, endA] at hp); (case h => (exact WInd_as _ rfl))) | fail); (apply awpP_cong; (case hT => ((try simp only [wtn]); rfl)); (case hH => rfl))
  (refine awpP_1 2 (by decide +kernel) rfl rfl ?_; (first | (((refine Stp_k 16 rfl ?_; ((refine Stp_store _ _ _ _ _ _ _ rfl rfl FBox.out HSize.out (by first | rfl | fail) (by first | exact Nat.le_of_ble_eq_true rfl | fail) ?_)))); apply awpP_cong; (case hT => ((try simp only [wtn]); rfl)); (case hH => ((try simp only [wtn, Nat.reduceAdd]); rfl))) | fail))
  refine awpP_rest (by decide +kernel) ?_
  refine awpA_cong rfl (by simp only [List.cons_append, List.nil_append]; rfl) ?_
  refine awpA_done (by decide +kernel) ?_
  (repeat' (first | with_reducible (first | refine awp_ret ?_ | refine thenA_normal ?_) | fail))
  refine endA_ret _ _ (Res2 rfl (RV.tmp _) (RV.cell 4 rfl rfl HAgg.out (by simp) (by simp)) (Weak.mk' [_, _, _, _, _] [] (List.Perm.refl _) VwHs.nil (VwL.cons Vw.nil (VwL.refl _ _)))) ?_
  exact ⟨rfl, rfl⟩
theorem lall_s (l : List UInt8) (hl : l.length ≤ 1000000) : Spec Tryz.prog 31 [] [.x (.string (bs l))] (fun r H' => r = .tup [.sq (toksOf (lex l)).length (ta (toksOf (lex l))), (fltOf (lex l)).av] ∧ H' = []) := by
  by_cases h8 : 8192 < l.length
  · have e : lex l = .error ⟨1, 0, 0⟩ := by unfold lex; rw [if_pos (by omega)]
    rw [e]
    exact lall_long l hl h8
  · have e : lex l = lexGo (1, 1) 0 l := by unfold lex; rw [if_neg (by omega)]
    have hs := scan_s l (by omega)
    rw [e]
    cases hx : lexGo (1, 1) 0 l with
    | ok ts => rw [hx] at hs; exact lall_ok l (by omega) ts hs
    | error f => rw [hx] at hs; exact lall_bad l (by omega) _ _ _ hs
end Go.Proofs.YtkhhlmonhapmaaaGreatDoor
/- A walk over symbolic memory: a panic in a region that draws, of which the end looks at slots. No program in sight. -/
namespace Go.Proofs.YtkhhlmonhapmaaaGreatDoor
open Go.RowKit
set_option linter.unusedSimpArgs false
set_option linter.unusedVariables false
section
variable {P : Program} {Δ : List Deferred} {V O : Nat → Prop} {w0 w w' : World} {B H H' D : List Hp} {T T' : List AV} {a a' : Act} {o : Oper} {ops : Array Oper} {Q : Post} {K : List AV → List Hp → Prop} {X : List PanicEntry → List AV → List Hp → Prop} {listed : Array Bool} {fuel : Nat} {DD : List Nat}
theorem lift_unput2 {c : List PanicEntry} {d : Option Tmp} {v : Value} (hpan : ∀ c T H, Q (.panic c) T H → Q (.panic c) (putT T d .top) H) (h : lift Δ V O w0 Q (.panic c) (a.put d v) w) : lift Δ V O w0 Q (.panic c) a w := by
  obtain ⟨T, H, r, q⟩ := h
  obtain ⟨u, e⟩ := act_unput a d v
  have r2 := r.put d (av := .top) (v := u) (by rw [Den]; trivial)
  rw [e] at r2
  exact ⟨_, H, r2, hpan _ _ _ q⟩
theorem awpP_yieldI2 (i : Nat) {o : Oper} {l : List Oper} (hi : nthO l i = some o) (hg : o.guard = none) (hc : takeOkP l.toArray listed i DD = true) (hpan : ∀ c T H, Q (.panic c) T H → Q (.panic c) (putT T o.dst .top) H) (av : AV)
    (h : ∀ V wr a w, OK V (B ++ H) (ev T) o a w → SameB wr B w → ∃ v, (∀ w', SameB wr B w' → (execOp a.eval o).run P w' = .ok (.value v) w') ∧ Den (FB V (B ++ H)) w av v) (hK : awpP P l.toArray Q DD B fuel (listed.setIfInBounds i true) (putT T o.dst av) H) : awpP P l.toArray Q DD B (fuel + 1) listed T H := by
  have hi : l.toArray[i]? = some o := by rw [List.getElem?_toArray, ← nthO_eq]; exact hi
  intro Δ V O w0 wr a w r hS
  obtain ⟨v, hv, hd⟩ := h V wr a w (r.oks o) hS
  have hD := takeOkP_D hc
  unfold takeOkP takeOk at hc
  simp only [Bool.and_eq_true] at hc
  exact wpAnyP.first hi hc.1.1.1 (fun c a w h => lift_unput2 hpan h) hD (Region.free_spec hi hc.1.1.2) (by simpa using hc.1.2) (.inl ⟨by simp [Region.wanted, hg], hv⟩) hS (hK Δ V O w0 wr _ w (r.put _ hd) hS)
theorem awpP_takeI2 (i : Nat) {o : Oper} {l : List Oper} (hi : nthO l i = some o) (hg : o.guard = none) (hc : takeOkP l.toArray listed i DD = true) (hpan : ∀ c T H, Q (.panic c) T H → Q (.panic c) (putT T o.dst .top) H) (av : AV) (h : WInd P o (ev T) (B ++ H) av) (hK : awpP P l.toArray Q DD B fuel (listed.setIfInBounds i true) (putT T o.dst av) H) : awpP P l.toArray Q DD B (fuel + 1) listed T H :=
  awpP_yieldI2 i hi hg hc hpan av (fun V wr a w ok _ => by obtain ⟨v, hv, hd⟩ := h V a w ok; exact ⟨v, fun w' _ => hv w', hd⟩) hK
theorem awpP_loadI2 (i : Nat) {o : Oper} {l : List Oper} (hi : nthO l i = some o) (hg : o.guard = none) (hc : takeOkP l.toArray listed i DD = true) (hpan : ∀ c T H, Q (.panic c) T H → Q (.panic c) (putT T o.dst .top) H) (p : Nat) (t : TypeId) (x : Operand) (b off : Nat) (cells : List AV) (agg : Bool) (n : Nat)
    (ho : o.op = .load t x) (hx : ev T x = .x (.pointer (some ⟨b, off, none⟩))) (hb : B[p]? = some (.box b cells)) (ht : aggT P t = some (agg, n)) (hn : off + n ≤ cells.length) (hn0 : off < cells.length)
    (hK : awpP P l.toArray Q DD B fuel (listed.setIfInBounds i true) (putT T o.dst (ldA agg n (cells.drop off))) H) : awpP P l.toArray Q DD B (fuel + 1) listed T H :=
  awpP_yieldI2 i hi hg hc hpan _ (fun V wr a w ok hS => by
    obtain ⟨vals, hd, hl, hcl⟩ := ok.hok.ok (.box b cells) (List.mem_append_left _ (List.mem_of_getElem? hb))
    obtain ⟨v, hr, hdv⟩ := run_loadVar_vals (P := P) t agg n ht w _ b off (cells.drop off) (vals.drop off) (hd.drop off) (by simp; omega) (fun _ => by simp; omega)
    refine ⟨v, fun w' hS' => ?_, hdv⟩
    have hbk : blks B b := ⟨_, List.mem_of_getElem? hb, rfl⟩
    have hsame : w'.heap[b]? = w.heap[b]? := (hS' b hbk).trans (hS b hbk).symm
    have := hr w' fun j u hj => by
      rw [World.cell?_of_block (a := ⟨b, off + j, none⟩) hsame]; exact (hcl (off + j) u (by rwa [List.getElem?_drop] at hj)).1
    simp [execOp, ho, ok.evx (x := x) (by simp [ho, Op.operands]) hx, Instr.loadAt, Instr.sureAddr, this]) hK
def panQ (X : List PanicEntry → List AV → List Hp → Prop) (Q : Post) : Post
  | .panic c, T, H => X c T H
  | e, T, H => Q e T H
theorem awp_panQ {c : Code} (h : awp P c (panQ X Q) T H) (hX : ∀ ch T H, X ch T H → Q (.panic ch) T H) : awp P c Q T H := fun Δ V O w0 a w r => wp_mono (h Δ V O w0 a w r) fun e a w ⟨T, H, r, q⟩ => ⟨T, H, r, by
  cases e with
  | panic ch => exact hX _ _ _ q
  | _ => exact q⟩
theorem panQ_normal (h : Q .normal T H) : panQ X Q .normal T H := h
def panS (ks : List (Nat × AV)) (Y : List PanicEntry → List Hp → Prop) : List PanicEntry → List AV → List Hp → Prop := fun c T H => Y c H ∧ ∀ p ∈ ks, T[p.1]? = some p.2
theorem panS_put {ks : List (Nat × AV)} {Y : List PanicEntry → List Hp → Prop} {c : List PanicEntry} {d : Nat} {av : AV} (hd : ∀ p ∈ ks, p.1 ≠ d) (h : panS ks Y c T H) : panS ks Y c (putT T (some d) av) H := ⟨h.1, fun p hp => by
  rw [← h.2 p hp]
  simp only [putT]
  exact List.getElem?_set_ne (fun e => hd p hp e.symm)⟩
theorem panS_put' {ks : List (Nat × AV)} {Y : List PanicEntry → List Hp → Prop} {c : List PanicEntry} {d : Nat} {av : AV} (hd : (ks.all fun p => p.1 != d) = true) (h : panS ks Y c T H) : panS ks Y c (putT T (some d) av) H := panS_put (fun p hp => by simpa using List.all_eq_true.1 hd p hp) h
theorem panQ_put {ks : List (Nat × AV)} {Y : List PanicEntry → List Hp → Prop} {c : List PanicEntry} {d : Nat} {av : AV} (hd : (ks.all fun p => p.1 != d) = true) (h : panQ (panS ks Y) Q (.panic c) T H) : panQ (panS ks Y) Q (.panic c) (putT T (some d) av) H := panS_put' hd h
end
end Go.Proofs.YtkhhlmonhapmaaaGreatDoor
