import Derived.Test.YtkhhlmonhapmaaaGreatDoorW34
import Derived.Test.YtkhhlmonhapmaaaGreatDoorW37
import Derived.Test.YtkhhlmonhapmaaaGreatDoorW38
import Derived.Test.YtkhhlmonhapmaaaGreatDoorW42
import Derived.Test.YtkhhlmonhapmaaaGreatDoorW13
import Derived.Test.YtkhhlmonhapmaaaGreatDoorW12
/- A walk over symbolic memory: a panic in a region that draws, of which the end looks at slots. No program in sight. -/
set_option linter.unusedSimpArgs false
set_option linter.unusedVariables false
namespace Go.Proofs.YtkhhlmonhapmaaaGreatDoor
open Go.RowKit
section
variable {P : Program} {Δ : List Deferred} {V O : Nat → Prop} {w0 w w' : World} {B H H' D : List Hp} {T T' : List AV} {a a' : Act} {o : Oper} {ops : Array Oper} {Q : Post} {K : List AV → List Hp → Prop} {X : List PanicEntry → List AV → List Hp → Prop} {listed : Array Bool} {fuel : Nat} {DD : List Nat}
theorem lift_unput2 {c : List PanicEntry} {d : Option Tmp} {v : Value} (hpan : ∀ c T H, Q (.panic c) T H → Q (.panic c) (putT T d .top) H) (h : lift Δ V O w0 Q (.panic c) (a.put d v) w) : lift Δ V O w0 Q (.panic c) a w := by
  obtain ⟨T, H, r, q⟩ := h
  obtain ⟨u, e⟩ := act_unput a d v
  have r2 := r.put d (av := .top) (v := u) (by rw [Den]; trivial)
  rw [e] at r2
  exact ⟨_, H, r2, hpan _ _ _ q⟩
theorem awpP_yieldI2 (i : Nat) {o : Oper} {l : List Oper} (hi : nthO l i = some o) (hg : o.guard = none) (hc : takeOkP l.toArray listed i DD = true) (hpan : ∀ c T H, Q (.panic c) T H → Q (.panic c) (putT T o.dst .top) H) (av : AV)
    (h : ∀ V wr a w, OK V (B ++ H) (ev T) o a w → SameB wr B w → ∃ v, (∀ w', SameB wr B w' → (execOp a.eval o).run P w' = .ok (.value v) w') ∧ Den (FB V (B ++ H)) w av v) (hK : awpP P l.toArray Q DD B fuel (listed.setIfInBounds i true) (putT T o.dst av) H) : awpP P l.toArray Q DD B (fuel + 1) listed T H := by
  have hi : l.toArray[i]? = some o := by rw [List.getElem?_toArray, ← nthO_eq]; exact hi
  intro Δ V O w0 wr a w r hS
  obtain ⟨v, hv, hd⟩ := h V wr a w (r.oks o) hS
  have hD := takeOkP_D hc
  unfold takeOkP takeOk at hc
  simp only [Bool.and_eq_true] at hc
  exact wpAnyP.first hi hc.1.1.1 (fun c a w h => lift_unput2 hpan h) hD (Region.free_spec hi hc.1.1.2) (by simpa using hc.1.2) (.inl ⟨by simp [Region.wanted, hg], hv⟩) hS (hK Δ V O w0 wr _ w (r.put _ hd) hS)
theorem awpP_takeI2 (i : Nat) {o : Oper} {l : List Oper} (hi : nthO l i = some o) (hg : o.guard = none) (hc : takeOkP l.toArray listed i DD = true) (hpan : ∀ c T H, Q (.panic c) T H → Q (.panic c) (putT T o.dst .top) H) (av : AV) (h : WInd P o (ev T) (B ++ H) av) (hK : awpP P l.toArray Q DD B fuel (listed.setIfInBounds i true) (putT T o.dst av) H) : awpP P l.toArray Q DD B (fuel + 1) listed T H :=
  awpP_yieldI2 i hi hg hc hpan av (fun V wr a w ok _ => by obtain ⟨v, hv, hd⟩ := h V a w ok; exact ⟨v, fun w' _ => hv w', hd⟩) hK
theorem awpP_loadI2 (i : Nat) {o : Oper} {l : List Oper} (hi : nthO l i = some o) (hg : o.guard = none) (hc : takeOkP l.toArray listed i DD = true) (hpan : ∀ c T H, Q (.panic c) T H → Q (.panic c) (putT T o.dst .top) H) (p : Nat) (t : TypeId) (x : Operand) (b off : Nat) (cells : List AV) (agg : Bool) (n : Nat)
    (ho : o.op = .load t x) (hx : ev T x = .x (.pointer (some ⟨b, off, none⟩))) (hb : B[p]? = some (.box b cells)) (ht : aggT P t = some (agg, n)) (hn : off + n ≤ cells.length) (hn0 : off < cells.length)
    (hK : awpP P l.toArray Q DD B fuel (listed.setIfInBounds i true) (putT T o.dst (ldA agg n (cells.drop off))) H) : awpP P l.toArray Q DD B (fuel + 1) listed T H :=
  awpP_yieldI2 i hi hg hc hpan _ (fun V wr a w ok hS => by
    obtain ⟨vals, hd, hl, hcl⟩ := ok.hok.ok (.box b cells) (List.mem_append_left _ (List.mem_of_getElem? hb))
    obtain ⟨v, hr, hdv⟩ := run_loadVar_vals (P := P) t agg n ht w _ b off (cells.drop off) (vals.drop off) (hd.drop off) (by simp; omega) (fun _ => by simp; omega)
    refine ⟨v, fun w' hS' => ?_, hdv⟩
    have hbk : blks B b := ⟨_, List.mem_of_getElem? hb, rfl⟩
    have hsame : w'.heap[b]? = w.heap[b]? := (hS' b hbk).trans (hS b hbk).symm
    have := hr w' fun j u hj => by
      rw [World.cell?_of_block (a := ⟨b, off + j, none⟩) hsame]; exact (hcl (off + j) u (by rwa [List.getElem?_drop] at hj)).1
    simp [execOp, ho, ok.evx (x := x) (by simp [ho, Op.operands]) hx, Instr.loadAt, Instr.sureAddr, this]) hK
def panQ (X : List PanicEntry → List AV → List Hp → Prop) (Q : Post) : Post
  | .panic c, T, H => X c T H
  | e, T, H => Q e T H
theorem awp_panQ {c : Code} (h : awp P c (panQ X Q) T H) (hX : ∀ ch T H, X ch T H → Q (.panic ch) T H) : awp P c Q T H := fun Δ V O w0 a w r => wp_mono (h Δ V O w0 a w r) fun e a w ⟨T, H, r, q⟩ => ⟨T, H, r, by
  cases e with
  | panic ch => exact hX _ _ _ q
  | _ => exact q⟩
theorem panQ_normal (h : Q .normal T H) : panQ X Q .normal T H := h
def panS (ks : List (Nat × AV)) (Y : List PanicEntry → List Hp → Prop) : List PanicEntry → List AV → List Hp → Prop := fun c T H => Y c H ∧ ∀ p ∈ ks, T[p.1]? = some p.2
theorem panS_put {ks : List (Nat × AV)} {Y : List PanicEntry → List Hp → Prop} {c : List PanicEntry} {d : Nat} {av : AV} (hd : ∀ p ∈ ks, p.1 ≠ d) (h : panS ks Y c T H) : panS ks Y c (putT T (some d) av) H := ⟨h.1, fun p hp => by
  rw [← h.2 p hp]
  simp only [putT]
  exact List.getElem?_set_ne (fun e => hd p hp e.symm)⟩
theorem panS_put' {ks : List (Nat × AV)} {Y : List PanicEntry → List Hp → Prop} {c : List PanicEntry} {d : Nat} {av : AV} (hd : (ks.all fun p => p.1 != d) = true) (h : panS ks Y c T H) : panS ks Y c (putT T (some d) av) H := panS_put (fun p hp => by simpa using List.all_eq_true.1 hd p hp) h
theorem panQ_put {ks : List (Nat × AV)} {Y : List PanicEntry → List Hp → Prop} {c : List PanicEntry} {d : Nat} {av : AV} (hd : (ks.all fun p => p.1 != d) = true) (h : panQ (panS ks Y) Q (.panic c) T H) : panQ (panS ks Y) Q (.panic c) (putT T (some d) av) H := panS_put' hd h
end
end Go.Proofs.YtkhhlmonhapmaaaGreatDoor
namespace Go.Proofs.YtkhhlmonhapmaaaGreatDoor
open Go.RowKit
theorem spn_pos {p : UInt8 → Bool} {c : UInt8} {r : List UInt8} (h : p c = true) : 1 ≤ spn p (c :: r) := by rw [spn_yes p c r h]; omega
theorem one_npos {l : List UInt8} {a : Int} {t : List UInt8} {m : Nat} (h : one l = .ok (a, t, m)) : a = 2 → 1 ≤ t.length := by
  intro h2
  subst h2
  cases l with
  | nil => cases h
  | cons c r =>
    unfold one at h
    simp only at h
    split at h
    · cases h
    · split at h
      · rename_i hd
        split at h
        · cases h
        · cases h
          have := spn_pos (r := r) hd
          rw [List.length_take]
          have := spn_le isDig (c :: r)
          omega
      · split at h
        · split at h <;> cases h
        · split at h
          · split at h <;> cases h
          · split at h <;> cases h
theorem tkok_of {s : List UInt8} {ts : List Tok} (h : lex s = .ok ts) : TkOk ts := by
  obtain ⟨hp, hn, hv, -, hle⟩ := (lex_facts s).2 ts h
  obtain ⟨hN, hS⟩ := lex_facts2 s ts h
  refine ⟨by omega, hv, ?_, hS⟩
  have h1 : ∀ t ∈ ts, t.kind = 2 → 1 ≤ t.text.length := by
    unfold lex at h
    split at h
    · cases h
    · exact lexGo_all (P := fun t => t.kind = 2 → 1 ≤ t.text.length) (fun p q h => by simp at h) (fun l a t m h p q => one_npos h) s.length (1, 1) 0 s ts (Nat.le_refl _) h
  exact fun t ht h2 => ⟨h1 t ht h2, (hN t ht h2).1, (hN t ht h2).2⟩
set_option maxRecDepth 100000 in
set_option maxHeartbeats 8000000 in
theorem gparse_err (s : List UInt8) (hl : s.length ≤ 1000000) (f : Flt) (hx : lex s = .error f) : Spec Tryz.prog 14 [] [.x (.string (bs s))] (fun r H' => r = jres (gParse s) ∧ H' = []) := by
  have hall := lall_s s hl
  have hf0 := (lex_facts s).1 f hx
  have hg : gParse s = .error f := by simp only [gParse, hx]
  rw [hg]
  rw [hx] at hall
  simp only [toksOf, fltOf, Flt.av] at hall
  clear hx hg
  refine Spec_ofD Tryz.func14 rfl ?_
  simp only [Tryz.ntmps14, List.length_cons, List.length_nil, List.replicate_succ, List.replicate_zero, List.cons_append, List.nil_append, Nat.reduceAdd, Nat.reduceSub]
  refine awpd_seq ?_
  (repeat' (first | with_reducible (first | refine awp_region ?_ | refine awpL_nil ?_ | refine thenA_normal ?_) | (refine awpL_cons rfl ?_; (((refine Stp_k 14 rfl ?_; ((refine Stp_alloc _ _ rfl HZero.out rfl (fun b => ?_))))); apply awpL_cong; (case hT => ((try simp only [wtn]); rfl)); (case hH => ((try simp only [wtn]); rfl)))) | fail))
  refine awpd_seq ?_
  (repeat' (first | with_reducible (first | refine awp_region ?_ | refine awpL_nil ?_ | refine thenA_normal ?_) | ((apply awpL_evl2 rfl); (case h => ((first | (apply Evl_k 0 rfl; (first | exact Evl_mv _ rfl | exact Evl_as _ rfl)) | (apply Evl_k 2 rfl; (exact Evl_extract _ _ _ _ rfl rfl rfl)) | (apply Evl_k 11 rfl; (exact Evl_call 31 Tryz.f31 _ _ rfl rfl Tryz.func31 (by decide) rfl (VwL.refl _ _) (hall)))))); (case hT => ((try simp only [wtn]); rfl))) | (refine awpL_cons rfl ?_; (((refine Stp_k 16 rfl ?_; ((refine Stp_store _ _ _ _ _ _ _ rfl rfl FBox.out HSize.out (by first | rfl | fail) (by first | exact Nat.le_of_ble_eq_true rfl | fail) ?_)))); apply awpL_cong; (case hT => ((try simp only [wtn]); rfl)); (case hH => ((try simp only [wtn, Nat.reduceAdd]); rfl)))) | fail))
  refine awpd_seq ?_
  (repeat' (first | with_reducible (first | refine awp_seq ?_ | refine awp_region ?_ | refine awpL_nil ?_ | refine thenA_normal ?_) | (refine awp_cond _ rfl (fun h => ?_) (fun h => ?_) <;> ((try (simp only [whn] at h)); first | (exfalso; omega; done) | skip)) | ((apply awpL_evl2 rfl); (case h => ((first | (apply Evl_k 5 rfl; (exact Evl_field_x _ _ _ _ _ _ rfl rfl HFld.out)) | (apply Evl_k 6 rfl; (exact Evl_load _ _ _ _ _ _ _ _ rfl rfl FBox.out HAgg.out (by first | exact Nat.le_of_ble_eq_true rfl | fail) (by first | exact Nat.le_of_ble_eq_true rfl | fail))) | (apply Evl_x; (case hs => (intro _ _ h; cases h)); (case hx => rfl); (case hrun => (intro w; simp [wtb, AV.val, go_sem]; skip; rfl)))))); (case hT => ((try simp only [wtn]); rfl))) | fail))
  refine awp_drawnA mixed ?_
  refine awpA_2 0 1 (by decide +kernel) rfl rfl rfl rfl ?_ ?_
  · (first | (apply Stp_evl; (case h => ((apply Evl_k 6 rfl; (exact Evl_load _ _ _ _ _ _ _ _ rfl rfl FBox.out HAgg.out (by first | exact Nat.le_of_ble_eq_true rfl | fail) (by first | exact Nat.le_of_ble_eq_true rfl | fail))))); (apply awpA_cong; (case hT => ((try simp only [wtn, ↓reduceIte]); rfl)); (case hH => rfl))) | fail)
    (refine awpA_1 1 (by decide +kernel) rfl rfl ?_; (first | (((refine Stp_k 16 rfl ?_; ((refine Stp_store _ _ _ _ _ _ _ rfl rfl FBox.out HSize.out (by first | rfl | fail) (by first | exact Nat.le_of_ble_eq_true rfl | fail) ?_)))); apply awpA_cong; (case hT => ((try simp only [wtn]); rfl)); (case hH => ((try simp only [wtn]); rfl))) | fail))
    (refine awpA_1 2 (by decide +kernel) rfl rfl ?_; (first | (((refine Stp_k 16 rfl ?_; ((refine Stp_store _ _ _ _ _ _ _ rfl rfl FBox.out HSize.out (by first | rfl | fail) (by first | exact Nat.le_of_ble_eq_true rfl | fail) ?_)))); apply awpA_cong; (case hT => ((try simp only [wtn]); rfl)); (case hH => ((try simp only [wtn, Nat.reduceAdd]); rfl))) | fail))
    refine awpA_done (by decide +kernel) ?_
    (repeat' (first | with_reducible (first | refine awp_ret ?_ | refine thenA_normal ?_ | refine thenA_ret ?_) | fail))
    refine endA_ret _ _ (Res2 rfl (RV.cell 1 rfl rfl HAgg.out (by simp) (by simp)) (RV.cell 0 rfl rfl HAgg.out (by simp) (by simp)) (Weak.mk' [_, _] [] (List.Perm.refl _) VwHs.nil (VwL.cons Vw.nil (VwL.refl _ _)))) ⟨?_, rfl⟩
    rfl
  · (first | (((refine Stp_k 16 rfl ?_; ((refine Stp_store _ _ _ _ _ _ _ rfl rfl FBox.out HSize.out (by first | rfl | fail) (by first | exact Nat.le_of_ble_eq_true rfl | fail) ?_)))); apply awpA_cong; (case hT => ((try simp only [wtn]); rfl)); (case hH => ((try simp only [wtn]); rfl))) | fail)
    (refine awpA_1 0 (by decide +kernel) rfl rfl ?_; (first | (apply Stp_evl; (case h => ((apply Evl_k 6 rfl; (exact Evl_load _ _ _ _ _ _ _ _ rfl rfl FBox.out HAgg.out (by first | exact Nat.le_of_ble_eq_true rfl | fail) (by first | exact Nat.le_of_ble_eq_true rfl | fail))))); (apply awpA_cong; (case hT => ((try simp only [wtn, ↓reduceIte]); rfl)); (case hH => rfl))) | fail))
    (refine awpA_1 2 (by decide +kernel) rfl rfl ?_; (first | (((refine Stp_k 16 rfl ?_; ((refine Stp_store _ _ _ _ _ _ _ rfl rfl FBox.out HSize.out (by first | rfl | fail) (by first | exact Nat.le_of_ble_eq_true rfl | fail) ?_)))); apply awpA_cong; (case hT => ((try simp only [wtn]); rfl)); (case hH => ((try simp only [wtn, Nat.reduceAdd]); rfl))) | fail))
    refine awpA_done (by decide +kernel) ?_
    (repeat' (first | with_reducible (first | refine awp_ret ?_ | refine thenA_normal ?_ | refine thenA_ret ?_) | fail))
    refine endA_ret _ _ (Res2 rfl (RV.cell 1 rfl rfl HAgg.out (by simp) (by simp)) (RV.cell 0 rfl rfl HAgg.out (by simp) (by simp)) (Weak.mk' [_, _] [] (List.Perm.refl _) VwHs.nil (VwL.cons Vw.nil (VwL.refl _ _)))) ⟨?_, rfl⟩
    rfl
theorem dec32 (n : Nat) : decide ((32 : Int) ≤ (n : Int)) = decide (32 ≤ n) := decide_eq_decide.2 (by omega)
set_option maxRecDepth 100000 in
set_option maxHeartbeats 8000000 in
theorem gparse_ok (s : List UInt8) (hl : s.length ≤ 1000000) (ts : List Tok) (hx : lex s = .ok ts) : Spec Tryz.prog 14 [] [.x (.string (bs s))] (fun r H' => r = jres (gParse s) ∧ H' = []) := by
  have hall := lall_s s hl
  obtain ⟨hp, hn, -⟩ := (lex_facts s).2 ts hx
  have hT := tkok_of hx
  have hg : gParse s = gJobs ts 0 [] := by simp only [gParse, hx]
  rw [hg]
  rw [hx] at hall
  simp only [toksOf, fltOf, Flt.av] at hall
  clear hx hg
  refine Spec_ofD Tryz.func14 rfl ?_
  simp only [Tryz.ntmps14, List.length_cons, List.length_nil, List.replicate_succ, List.replicate_zero, List.cons_append, List.nil_append, Nat.reduceAdd, Nat.reduceSub]
  refine awpd_seq ?_
  (repeat' (first | with_reducible (first | refine awp_region ?_ | refine awpL_nil ?_ | refine thenA_normal ?_) | (refine awpL_cons rfl ?_; (((refine Stp_k 14 rfl ?_; ((refine Stp_alloc _ _ rfl HZero.out rfl (fun b => ?_))))); apply awpL_cong; (case hT => ((try simp only [wtn]); rfl)); (case hH => ((try simp only [wtn]); rfl)))) | fail))
  refine awpd_seq ?_
  (repeat' (first | with_reducible (first | refine awp_region ?_ | refine awpL_nil ?_ | refine thenA_normal ?_) | ((apply awpL_evl2 rfl); (case h => ((first | (apply Evl_k 0 rfl; (first | exact Evl_mv _ rfl | exact Evl_as _ rfl)) | (apply Evl_k 2 rfl; (exact Evl_extract _ _ _ _ rfl rfl rfl)) | (apply Evl_k 11 rfl; (exact Evl_call 31 Tryz.f31 _ _ rfl rfl Tryz.func31 (by decide) rfl (VwL.refl _ _) (hall)))))); (case hT => ((try simp only [wtn]); rfl))) | (refine awpL_cons rfl ?_; (((refine Stp_k 16 rfl ?_; ((refine Stp_store _ _ _ _ _ _ _ rfl rfl FBox.out HSize.out (by first | rfl | fail) (by first | exact Nat.le_of_ble_eq_true rfl | fail) ?_)))); apply awpL_cong; (case hT => ((try simp only [wtn]); rfl)); (case hH => ((try simp only [wtn, Nat.reduceAdd]); rfl)))) | fail))
  refine awpd_seq ?_
  (repeat' (first | with_reducible (first | refine awp_seq ?_ | refine awp_region ?_ | refine awp_skip ?_ | refine awpL_nil ?_ | refine thenA_normal ?_) | (refine awp_cond _ rfl (fun h => ?_) (fun h => ?_) <;> first | (exact absurd h (by decide)) | ((try (simp only [] at h)); skip)) | ((apply awpL_evl2 rfl); (case h => ((first | (apply Evl_k 5 rfl; (exact Evl_field_x _ _ _ _ _ _ rfl rfl HFld.out)) | (apply Evl_k 6 rfl; (exact Evl_load _ _ _ _ _ _ _ _ rfl rfl FBox.out HAgg.out (by first | exact Nat.le_of_ble_eq_true rfl | fail) (by first | exact Nat.le_of_ble_eq_true rfl | fail))) | (apply Evl_x; (case hs => (intro _ _ h; cases h)); (case hx => rfl); (case hrun => (intro w; simp [wtb, AV.val, go_sem]; skip; rfl)))))); (case hT => ((try simp only [wtn]); rfl))) | fail))
  refine awpd_region (l := [_, _]) ?_
  rename_i b2
  obtain ⟨b3, rfl⟩ : ∃ x, x = b := ⟨b, rfl⟩
  refine awpdL_evl (T' := _) rfl (.x (.func (.func 32) #[] #[.pointer (some ⟨b2, 0, none⟩), .pointer (some ⟨b3, 0, none⟩)])) ?h rfl ?_
  case h => (apply Evl_x; (case hs => (intro _ _ h; cases h)); (case hx => rfl); (case hrun => (intro w; simp [wtb, AV.val, go_sem]; try rfl)))
  simp only [putT, List.set_cons_zero, List.set_cons_succ]
  refine awpdL_defer rfl rfl rfl rfl rfl ?_
  refine awpdL_nil ?_
  simp only
  refine awpd_of ?_
  refine awp_nilrow 51 15 ?_
  (repeat' (first | with_reducible (first | refine awp_seq ?_ | refine awp_region ?_ | refine awp_block ?_ | refine awpL_nil ?_ | refine thenA_normal ?_) | ((apply awpL_evl2 rfl); (case h => ((first | (apply Evl_k 0 rfl; (first | exact Evl_mv _ rfl | exact Evl_as _ rfl)) | (apply Evl_k 10 rfl; (exact Evl_build _ _ _ _ _ rfl HPl.out (by first | rfl | fail) rfl))))); (case hT => ((try simp only [wtn, ↓reduceIte]); rfl))) | (refine awpL_cons rfl ?_; (((refine Stp_k 15 rfl ?_; ((refine Stp_box _ _ rfl (by first | rfl | fail) (fun b => ?_))))); apply awpL_cong; (case hT => ((try simp only [wtn]); rfl)); (case hH => ((try simp only [wtn]); rfl)))) | fail))
  obtain ⟨pb, rfl⟩ : ∃ x, x = b := ⟨b, rfl⟩
  apply awp_loopS (S := Nat × List JF × Option Addr × Nat) (fun q => frm 33 [(2, .x (.pointer (some ⟨b2, 0, none⟩))), (3, .x (.pointer (some ⟨b3, 0, none⟩))), (5, .x (.pointer (some ⟨pb, 0, none⟩)))])
    (fun q => [.box pb (tc ts q.1), .box b2 [.x (.slice q.2.2.1 q.2.1.length q.2.2.2)], .row q.2.2.1 q.2.1.length q.2.2.2 51 15 (jfa q.2.1), .box b3 [.x (.int .i64 0), .x (.int .i64 0), .x (.int .i64 0)]])
    (fun q => q.1 < ts.length ∧ q.2.1.length ≤ q.1 ∧ gJobs ts q.1 q.2.1 = gJobs ts 0 []) (fun q => ts.length - q.1) (0, [], none, 0)
  case h0 => exact Weak.mk' [] [.box pb _, .box b2 _, .row none 0 0 _ _ _, .box b3 _] (by (repeat' (first | exact List.Perm.refl _ | refine List.Perm.cons _ ?_ | refine (List.perm_middle (l₁ := [_, _])).trans (List.Perm.cons _ ?_) | fail))) (VwHs.refl _ _) (by (repeat' (first | exact VwL.nil | (refine VwL.cons ?_ ?_) | exact Vw.refl _ | exact Vw.top _ | fail)))
  case hi => exact ⟨hp, Nat.zero_le _, rfl⟩
  rintro ⟨kk, js, ad, cap⟩ ⟨g1, g4, g6⟩
  simp only at g1 g4 g6
  have g6' := Lib.hid g6
  clear g6
  have hPk := peek_p ts kk g1 hT.len
  unfold Tok.av at hPk
  have hJ := job_p pb ts kk (decide ((32 : Int) ≤ (js.length : Int))) g1 hT
  simp only [tc] at hJ hPk ⊢
  simp only [frm, List.replicate_succ, List.replicate_zero, List.foldl_cons, List.foldl_nil, List.set_cons_zero, List.set_cons_succ]
  (repeat' (first | with_reducible (first | refine awp_seq ?_ | refine awp_region ?_ | refine awp_block ?_ | refine awp_ret ?_ | refine awp_skip ?_ | refine awp_exit ?_ | refine awpL_nil ?_ | refine thenA_normal ?_ | refine thenA_exit ?_ | refine inBlockA_eq ?_) | (refine awp_cond _ rfl (fun h => ?_) (fun h => ?_) <;> ((try (simp only [whn] at h)); skip)) | ((apply awpL_evl2 rfl); (case h => ((first | (apply Evl_k 0 rfl; (exact Evl_mv _ rfl)) | (apply Evl_k 6 rfl; (exact Evl_load _ _ _ _ _ _ _ _ rfl rfl FBox.out HAgg.out (by first | exact Nat.le_of_ble_eq_true rfl | fail) (by first | exact Nat.le_of_ble_eq_true rfl | fail))) | (apply Evl_k 10 rfl; (exact Evl_build _ _ _ _ _ rfl HPl.out (by first | rfl | fail) rfl)) | (apply Evl_k 11 rfl; (exact Evl_callL 33 Tryz.f33 _ _ rfl rfl Tryz.func33 (by decide) rfl (by (repeat' (first | exact VwL.nil | (refine VwL.cons ?_ ?_) | exact Vw.box (List.Mem.head _) (VwL.refl _ _) | fail)); done) (hPk))) | (apply Evl_k 12 rfl; (exact Evl_fvx _ _ _ _ _ _ _ rfl rfl HFv.out (by first | (simp; done) | fail) (by first | (simp; done) | fail))) | (apply Evl_x; (case hs => (intro _ _ h; cases h)); (case hx => rfl); (case hrun => (intro w; simp [wtb, AV.val, go_sem]; skip; rfl)))))); (case hT => ((try simp only [wtn, ↓reduceIte]); rfl))) | (refine awpL_cons rfl ?_; (((refine Stp_k 16 rfl ?_; ((refine Stp_store _ _ _ _ _ _ _ rfl rfl FBox.out HSize.out (by first | rfl | fail) (by first | exact Nat.le_of_ble_eq_true rfl | fail) ?_)))); apply awpL_cong; (case hT => ((try simp only [wtn]); rfl)); (case hH => ((try simp only [wtn, Nat.reduceAdd]); rfl)))) | fail))
  · have hk6 : (tkA ts kk).kind ≠ 6 := by rw [tkA_get g1]; exact h
    refine awp_panQ (X := panS [(2, .x (.pointer (some ⟨b2, 0, none⟩))), (3, .x (.pointer (some ⟨b3, 0, none⟩)))] fun c H => ∃ f, c = one1 (fv f) ∧ gJobs ts 0 [] = .error f ∧ ∃ R : List Hp, H.Perm ([.box b2 [.x (.slice ad js.length cap)], .box b3 [.x (.int .i64 0), .x (.int .i64 0), .x (.int .i64 0)]] ++ R)) ?_ ?_
    · refine awpP_drawn mixed [8] [.box b2 _] [.box pb _, .row ad _ _ _ _ _, .box b3 _] (by (repeat' (first | exact List.Perm.refl _ | refine (List.perm_middle (l₁ := [_])).trans (List.Perm.cons _ ?_) | fail))) ?_
      (first | refine awpP_loadI2 0 rfl rfl (by kernel_rfl) (fun _ _ _ hp => panQ_put rfl hp) _ _ _ _ _ _ _ _ rfl rfl FBox.out HAgg.out (by first | exact Nat.le_of_ble_eq_true rfl | fail) (by first | exact Nat.le_of_ble_eq_true rfl | fail) ?_ | fail); (apply awpP_cong; (case hT => ((try simp only [wtn]); rfl)); (case hH => rfl)); (first | (apply awpP_takeI2 1 rfl rfl (by kernel_rfl) (fun _ _ _ hp => panQ_put rfl hp); (case h => (exact WInd_mv _ rfl))) | fail); (apply awpP_cong; (case hT => ((try simp only [wtn]); rfl)); (case hH => rfl)); (first | refine awpP_loadI2 2 rfl rfl (by kernel_rfl) (fun _ _ _ hp => panQ_put rfl hp) _ _ _ _ _ _ _ _ rfl rfl FBox.out HAgg.out (by first | exact Nat.le_of_ble_eq_true rfl | fail) (by first | exact Nat.le_of_ble_eq_true rfl | fail) ?_ | fail); (apply awpP_cong; (case hT => ((try simp only [wtn]); rfl)); (case hH => rfl)); (first | (apply awpP_takeI2 3 rfl rfl (by kernel_rfl) (fun _ _ _ hp => panQ_put rfl hp); (case h => ((apply WInd_x; (case hs => (intro _ _ h; cases h)); (case hx => rfl); (case hrun => (intro w; simp [wtb, AV.val, go_sem]; skip; rfl)))))) | fail); (apply awpP_cong; (case hT => ((try simp only [wtn]); rfl)); (case hH => rfl)); (first | (apply awpP_takeI2 4 rfl rfl (by kernel_rfl) (fun _ _ _ hp => panQ_put rfl hp); (case h => ((apply WInd_x; (case hs => (intro _ _ h; cases h)); (case hx => rfl); (case hrun => (intro w; simp [wtb, AV.val, go_sem]; skip; rfl)))))) | fail); (apply awpP_cong; (case hT => ((try simp only [wtn]); rfl)); (case hH => rfl))
      (first | (refine awpP_1P 5 (by decide +kernel) rfl rfl ?_; refine StpP_call 34 Tryz.f34 [.box pb _] _ _ _ _ rfl rfl Tryz.func34 (by decide) rfl (List.Perm.refl _) (VwL.refl _ _) (hJ) ?_ ?_; (case' refine_1 => (rintro _ _ ⟨j1, k1, rfl, rfl, hx, hk2, hj2, hk3⟩; (apply awpP_cong; (case hT => ((try simp (disch := omega) only [wtn, JF.cells, List.append_eq, List.foldl_cons, List.foldl_nil, List.map_cons, List.map_nil, Nat.reduceAdd, Nat.reduceMul, Nat.reduceSub, ↓reduceIte, Nat.reduceEqDiff]); rfl)); (case hH => ((try simp (disch := omega) only [wtn, JF.cells, List.append_eq, List.foldl_cons, List.foldl_nil, List.map_cons, List.map_nil, Nat.reduceAdd, Nat.reduceMul, Nat.reduceSub, ↓reduceIte, Nat.reduceEqDiff]); rfl))))); (case' refine_2 => (rintro _ Hq ⟨f, hx, rfl⟩))) | fail)
      · refine ⟨⟨f, rfl, g6'.out.symm.trans (gJobs_bad hk6 (by rw [← dec32]; exact hx)), Hq ++ [.row ad js.length cap 51 15 (jfa js)], ?_⟩, ?_⟩
        · refine List.Perm.trans (List.Perm.of_eq ?_) (List.Perm.cons _ (List.perm_append_comm (l₁ := Hq ++ [.row ad js.length cap 51 15 (jfa js)]) (l₂ := [.box b3 [.x (.int .i64 0), .x (.int .i64 0), .x (.int .i64 0)]])))
          simp
        · intro p hp
          simp only [List.mem_cons, List.not_mem_nil, or_false] at hp
          rcases hp with rfl | rfl <;> rfl
      · (refine awpP_1 6 (by decide +kernel) rfl rfl ?_; (first | (((refine Stp_k 17 rfl ?_; ((refine Stp_buildSlice _ _ _ _ _ _ _ _ rfl HElem.out (by first | rfl | fail) rfl (by decide) rfl (fun b => ?_))))); apply awpP_cong; (case hT => ((try simp (disch := omega) only [wtn, JF.cells, List.append_eq, List.foldl_cons, List.foldl_nil, List.map_cons, List.map_nil, Nat.reduceAdd, Nat.reduceMul, Nat.reduceSub, ↓reduceIte, Nat.reduceEqDiff]); rfl)); (case hH => ((try simp (disch := omega) only [wtn, JF.cells, List.append_eq, List.foldl_cons, List.foldl_nil, List.map_cons, List.map_nil, Nat.reduceAdd, Nat.reduceMul, Nat.reduceSub, ↓reduceIte, Nat.reduceEqDiff]); rfl))) | fail))
        (refine awpP_1 7 (by decide +kernel) rfl rfl ?_; (first | (((refine Stp_k 13 rfl ?_; ((refine Stp_append _ _ _ _ _ _ _ _ _ _ _ _ _ _ rfl rfl FRow.out (Src.row _ rfl FRow.out) HElem.out (by first | rfl | fail) (fits _ _ (by omega) (by decide)) (fun ad cap => ?_))))); apply awpP_cong; (case hT => ((try simp (disch := omega) only [wtn, JF.cells, List.append_eq, List.foldl_cons, List.foldl_nil, List.map_cons, List.map_nil, Nat.reduceAdd, Nat.reduceMul, Nat.reduceSub, ↓reduceIte, Nat.reduceEqDiff]); rfl)); (case hH => ((try simp (disch := omega) only [wtn, JF.cells, List.append_eq, List.foldl_cons, List.foldl_nil, List.map_cons, List.map_nil, Nat.reduceAdd, Nat.reduceMul, Nat.reduceSub, ↓reduceIte, Nat.reduceEqDiff]); rfl))) | fail))
        refine awpP_rest (by decide +kernel) ?_
        refine awpA_cong rfl (by simp only [List.cons_append, List.nil_append]; rfl) ?_
        (refine awpA_1 8 (by decide +kernel) rfl rfl ?_; (first | (((refine Stp_k 16 rfl ?_; ((refine Stp_store _ _ _ _ _ _ _ rfl rfl FBox.out HSize.out (by first | rfl | fail) (by first | exact Nat.le_of_ble_eq_true rfl | fail) ?_)))); apply awpA_cong; (case hT => ((try simp only [wtn]); rfl)); (case hH => ((try simp only [wtn]); rfl))) | fail))
        refine awpA_done (by decide +kernel) ?_
        refine panQ_normal ?_
        (repeat' (first | with_reducible (first | refine thenA_normal ?_ | refine inBlockA_normal ?_) | fail))
        refine ⟨(k1, js ++ [j1], ad, cap), by simp only; omega, ⟨hk2, by simp only [List.length_append, List.length_cons, List.length_nil]; omega, ?_⟩, ?_⟩
        · rw [← g6'.out]
          exact (gJobs_step (x := (j1, k1)) hk6 (by rw [← dec32]; exact hx) ⟨hk3, g1⟩).symm
        · simp only [jfa_app, List.length_append, List.length_cons, List.length_nil]
          exact Weak.mk' [.row (some ⟨b, 0, none⟩) _ _ _ _ _] [.box pb _, .box b2 _, .row ad _ cap _ _ _, .box b3 _] (by (repeat' (first | exact List.Perm.refl _ | refine (List.perm_middle (l₁ := [_])).trans (List.Perm.cons _ ?_) | fail))) (VwHs.refl _ _) (by (repeat' (first | exact VwL.nil | (refine VwL.cons ?_ ?_) | exact Vw.refl _ | exact Vw.top _ | fail)))
    · rintro ch T H ⟨⟨f, rfl, hg, R, hpm⟩, hs⟩
      (repeat (with_reducible first | refine thenA_panic ?_ | refine inBlockA_panic ?_ | fail))
      have h2 := hs (2, _) (List.Mem.head _)
      have h3 := hs (3, _) (List.Mem.tail _ (List.Mem.head _))
      simp only at h2 h3
      rw [hg]
      refine ⟨.panicking (one1 (fv f)), .panicking [{ v := fv f, recovered := true }], 32, .func 32, #[.pointer (some ⟨b2, 0, none⟩), .pointer (some ⟨b3, 0, none⟩)], #[], [.pointer (some ⟨b2, 0, none⟩), .pointer (some ⟨b3, 0, none⟩)], [.box b2 _, .box b3 _], R, _, .inr (.inr ⟨_, rfl, rfl⟩), rfl, hpm, rfl, fun w => by simp [go_sem], catch_p b2 b3 _ _ _ _ f, fun r' H' hh => ?_⟩
      subst hh
      exact ⟨_, [], Res2 rfl (RV.cell 0 (by simp [ev, List.getD_eq_getElem?_getD, h2]) rfl HAgg.out (by simp) (by simp)) (RV.cell 1 (by simp [ev, List.getD_eq_getElem?_getD, h3]) rfl HAgg.out (by simp) (by simp)) (Weak.mk' (_ :: _ :: R) [] (by rw [List.append_nil]; exact List.Perm.refl _) VwHs.nil (VwL.cons Vw.nil (VwL.refl _ _))), rfl, rfl⟩
  · have hk6 : (tkA ts kk).kind = 6 := by rw [tkA_get g1]; exact h
    have hg : gJobs ts 0 [] = .ok js := g6'.out.symm.trans (gJobs_end hk6)
    rw [hg]
    refine ⟨.returning, .returning, 32, .func 32, #[.pointer (some ⟨b2, 0, none⟩), .pointer (some ⟨b3, 0, none⟩)], #[], [.pointer (some ⟨b2, 0, none⟩), .pointer (some ⟨b3, 0, none⟩)], [.box b2 _, .box b3 _], [.row ad _ _ _ _ _, .box pb _], _, .inl ⟨rfl, rfl⟩, rfl, by (repeat' (first | exact List.Perm.refl _ | refine (List.perm_middle (l₁ := [_])).trans (List.Perm.cons _ ?_) | refine (List.perm_middle (l₁ := [_, _])).trans (List.Perm.cons _ ?_) | fail)), rfl, fun w => by simp [go_sem], idle_p b2 b3 _, fun r' H' hh => ?_⟩
    subst hh
    exact ⟨_, [], Res2 rfl (RV.cell 0 rfl rfl HAgg.out (by simp) (by simp)) (RV.cell 1 rfl rfl HAgg.out (by simp) (by simp)) (Weak.mk' [.row ad _ _ _ _ _, .box pb _, .box b2 _, .box b3 _] [] (by (repeat' (first | exact List.Perm.refl _ | refine (List.perm_middle (l₁ := [_, _])).trans (List.Perm.cons _ ?_) | fail))) VwHs.nil (VwL.cons (Vw.row (List.Mem.head _) (VwL.refl _ _)) (VwL.refl _ _))), rfl, rfl⟩
theorem gparse_s (s : List UInt8) (hl : s.length ≤ 1000000) : Spec Tryz.prog 14 [] [.x (.string (bs s))] (fun r H' => r = jres (gParse s) ∧ H' = []) := by
  cases hx : lex s with
  | error f => rw [show gParse s = .error f by simp only [gParse, hx]]; exact (gparse_err s hl f hx).mono fun r H' ⟨h1, h2⟩ => ⟨by rw [h1]; simp only [gParse, hx], h2⟩
  | ok ts => exact gparse_ok s hl ts hx
end Go.Proofs.YtkhhlmonhapmaaaGreatDoor
namespace Go.Proofs.YtkhhlmonhapmaaaGreatDoor
open Go.RowKit
def quoF : Nat → List UInt8 → Option (List UInt8 × Nat)
  | 0, _ => none
  | _ + 1, [] => none
  | q + 1, c :: r => if c.toNat = 34 then some ([], 1) else match part (c :: r) with
    | none => none
    | some x => (quoF q ((c :: r).drop (max x.2 1))).map fun y => (x.1 :: y.1, x.2 + y.2)
theorem quoF_eq : ∀ (q : Nat) (l : List UInt8), l.length < q → quoF q l = quo l
  | 0, _, h => by omega
  | q + 1, [], _ => by rw [quo]; rfl
  | q + 1, c :: r, h => by
    rw [quo, quoF]
    split
    · rfl
    · cases part (c :: r) with
      | none => rfl
      | some x =>
        simp only
        rw [quoF_eq q _ (by simp only [List.length_drop, List.length_cons] at *; omega)]
def skpF : Nat → List UInt8 → Nat
  | 0, _ => 0
  | _ + 1, [] => 0
  | q + 1, c :: r => if c.toNat = 32 ∨ c.toNat = 9 ∨ c.toNat = 10 ∨ c.toNat = 13 then skpF q r + 1 else if c.toNat = 35 then cmt (c :: r) + skpF q ((c :: r).drop (max (cmt (c :: r)) 1)) else 0
theorem skpF_eq : ∀ (q : Nat) (l : List UInt8), l.length < q → skpF q l = skp l
  | 0, _, h => by omega
  | q + 1, [], _ => by rw [skp]; rfl
  | q + 1, c :: r, h => by
    rw [skp, skpF]
    split
    · rw [skpF_eq q r (by simp only [List.length_cons] at h; omega)]
    · split
      · rw [skpF_eq q _ (by simp only [List.length_drop, List.length_cons] at *; omega)]
      · rfl
def oneF (q : Nat) : List UInt8 → Except Int (Int × List UInt8 × Nat)
  | [] => .error 50
  | c :: r =>
    if isLet c then .ok (1, (c :: r).take (spn isWrd (c :: r)), spn isWrd (c :: r))
    else if isDig c then
      if 18 < spn isDig (c :: r) ∨ 1 < spn isDig (c :: r) ∧ c.toNat = 48 then .error 53 else .ok (2, (c :: r).take (spn isDig (c :: r)), spn isDig (c :: r))
    else if c.toNat = 34 then match quoF q r with
      | none => .error 51
      | some x => .ok (3, x.1, x.2 + 1)
    else if c.toNat = 47 then match sla r with
      | none => .error 52
      | some x => .ok (4, x.1, x.2 + 1)
    else if c.toNat = 123 ∨ c.toNat = 125 ∨ c.toNat = 44 ∨ c.toNat = 61 then .ok (5, [c], 1)
    else .error 50
theorem oneF_eq (q : Nat) : ∀ l : List UInt8, l.length ≤ q → oneF q l = one l
  | [], _ => rfl
  | c :: r, h => by
    unfold oneF one
    simp only
    rw [quoF_eq q r (by simp only [List.length_cons] at h; omega)]
    rfl
def lexF : Nat → Nat × Nat → Nat → List UInt8 → Except Flt (List Tok)
  | 0, _, _, _ => .ok []
  | q + 1, p, n, l =>
    match l.drop (skpF (q + 2) l) with
    | [] => .ok [⟨6, [], (plc p l).1, (plc p l).2⟩]
    | c :: r =>
      match oneF (q + 2) (c :: r) with
      | .error e => .error ⟨e, (plc p (l.take (skpF (q + 2) l))).1, (plc p (l.take (skpF (q + 2) l))).2⟩
      | .ok x => if 2000 ≤ n then .error ⟨1, (plc p (l.take (skpF (q + 2) l))).1, (plc p (l.take (skpF (q + 2) l))).2⟩
        else (lexF q (plc p (l.take (skpF (q + 2) l + x.2.2))) (n + 1) ((c :: r).drop (max x.2.2 1))).map (⟨x.1, x.2.1, (plc p (l.take (skpF (q + 2) l))).1, (plc p (l.take (skpF (q + 2) l))).2⟩ :: ·)
theorem lexF_eq : ∀ (q : Nat) (p : Nat × Nat) (n : Nat) (l : List UInt8), l.length < q → lexF q p n l = lexGo p n l
  | 0, _, _, _, h => by omega
  | q + 1, p, n, l, h => by
    unfold lexF
    rw [skpF_eq (q + 2) l (by omega)]
    cases hd : l.drop (skp l) with
    | nil => rw [lexGo_end p n l hd]
    | cons c r =>
      have hlen := congrArg List.length hd
      simp only [List.length_drop, List.length_cons] at hlen
      simp only
      rw [oneF_eq (q + 2) (c :: r) (by simp only [List.length_cons]; omega)]
      cases h1 : one (c :: r) with
      | error e => rw [lexGo_bad p n l c r e hd h1]
      | ok x =>
        simp only
        by_cases hn : 2000 ≤ n
        · rw [if_pos hn, lexGo_full p n l c r x hd h1 hn]
        · obtain ⟨a, b, k⟩ := x
          have g := one_le h1
          simp only at g
          rw [if_neg hn, lexGo_one p n l c r a b k hd h1 g.1 (by omega), show max k 1 = k from by omega, lexF_eq q _ _ _ (by simp only [List.length_drop, List.length_cons]; omega)]
def lexE (l : List UInt8) : Except Flt (List Tok) := if 8192 < l.length then .error ⟨1, 0, 0⟩ else lexF (l.length + 1) (1, 1) 0 l
theorem lexE_eq (l : List UInt8) : lexE l = lex l := by
  unfold lexE lex
  rw [lexF_eq _ _ _ _ (Nat.lt_succ_self _)]
def gListF {α : Type} (el : Nat → List α → Except Flt α) (st : Nat) (ts : List Tok) : Nat → Nat → List α → Except Flt (List α × Nat)
  | 0, _, _ => .ok ([], 0)
  | q + 1, k, out => match el k out with
    | .error f => .error f
    | .ok x => if k + st < ts.length ∧ gIs ts (k + st) [44] = true then gListF el st ts q (k + st + 1) (out ++ [x]) else .ok (out ++ [x], k + st)
theorem gListF_eq {α : Type} (el : Nat → List α → Except Flt α) (st : Nat) (ts : List Tok) : ∀ (q k : Nat) (out : List α), ts.length - k < q → gListF el st ts q k out = gList el st ts k out
  | 0, _, _, h => by omega
  | q + 1, k, out, h => by
    rw [gList, gListF]
    cases el k out with
    | error f => rfl
    | ok x =>
      simp only
      by_cases hc : k + st < ts.length ∧ gIs ts (k + st) [44] = true
      · rw [if_pos hc, dif_pos hc, gListF_eq el st ts q _ _ (by omega)]
      · rw [if_neg hc, dif_neg hc]
def gItemF (ts : List Tok) (k : Nat) (w : List UInt8) (j : JF) : Except Flt (JF × Nat) :=
  if w = wRun then (gTake ts k 3 512).map fun t => ({ j with run := t.text }, k + 1)
  else if w = wEnv then (gVar ts k j.env).map fun v => ({ j with env := j.env ++ [v] }, k + 3)
  else if w = wNeeds then (gListF (gNeed ts) 1 ts (ts.length + 1) k []).map fun x => ({ j with needs := x.1 }, x.2)
  else if w = wReady then (gTake ts k 4 128).map fun t => ({ j with hasr := true, ready := t.text }, k + 1)
  else if w = wRestart then (gPol ts k).map fun n => ({ j with restart := n }, k + 1)
  else if w = wBackoff then do
    let a ← gNum ts k
    let b ← gNum ts (k + 1)
    let c ← gNum ts (k + 2)
    .ok ({ j with base := a, cap := b, stable := c }, k + 3)
  else if w = wBurst then do
    let n ← gNum ts k
    if n < 1 ∨ 16 < n then .error (flt 2 (tkA ts k)) else
    let m ← gNum ts (k + 1)
    .ok ({ j with burst := n, window := m }, k + 2)
  else (gListF (gRung ts) 2 ts (ts.length + 1) k []).map fun x => ({ j with ladder := x.1 }, x.2)
theorem gItemF_eq (ts : List Tok) (k : Nat) (w : List UInt8) (j : JF) : gItemF ts k w j = gItem ts k w j := by
  unfold gItemF gItem
  rw [gListF_eq _ _ _ _ _ _ (by omega), gListF_eq _ _ _ _ _ _ (by omega)]
def gItemsF (ts : List Tok) (name : Tok) : Nat → Nat → List (List UInt8) → JF → Except Flt (JF × Nat)
  | 0, _, _, j => .ok (j, 0)
  | q + 1, k, seen, j =>
    if gIs ts k [125] then (if seen.contains wRun then .ok (j, k + 1) else .error (flt 6 name))
    else if (tkA ts k).kind ≠ 1 ∨ ¬ items.contains (tkA ts k).text then .error (flt 60 (tkA ts k))
    else if (tkA ts k).text ≠ wEnv ∧ seen.contains (tkA ts k).text then .error (flt 5 (tkA ts k))
    else match gItemF ts (k + 1) (tkA ts k).text j with
      | .error f => .error f
      | .ok x => if k < x.2 ∧ k < ts.length then gItemsF ts name q x.2 (if (tkA ts k).text = wEnv then seen else seen ++ [(tkA ts k).text]) x.1 else .error (flt 60 (tkA ts k))
theorem gItemsF_eq (ts : List Tok) (name : Tok) : ∀ (q k : Nat) (seen : List (List UInt8)) (j : JF), ts.length - k < q → gItemsF ts name q k seen j = gItems ts name k seen j
  | 0, _, _, _, h => by omega
  | q + 1, k, seen, j, h => by
    rw [gItems, gItemsF, gItemF_eq]
    split
    · rfl
    split
    · rfl
    split
    · rfl
    cases gItem ts (k + 1) (tkA ts k).text j with
    | error f => rfl
    | ok x =>
      simp only
      by_cases hc : k < x.2 ∧ k < ts.length
      · rw [if_pos hc, dif_pos hc, gItemsF_eq ts name q _ _ _ (by omega)]
      · rw [if_neg hc, dif_neg hc]
def gJobF (ts : List Tok) (k : Nat) (full : Bool) : Except Flt (JF × Nat) := do
  let w ← gTake ts k 1 8192
  if w.text ≠ wJob then .error (flt 60 w) else
  let t ← gName ts (k + 1) full
  gSign ts (k + 2) [123]
  gItemsF ts t (ts.length + 1) (k + 3) [] (job0 t)
theorem gJobF_eq (ts : List Tok) (k : Nat) (full : Bool) : gJobF ts k full = gJob ts k full := by
  unfold gJobF gJob
  have e : ∀ t, gItemsF ts t (ts.length + 1) (k + 3) [] (job0 t) = gItems ts t (k + 3) [] (job0 t) := fun t => gItemsF_eq _ _ _ _ _ _ (by omega)
  simp only [e]
def gJobsF (ts : List Tok) : Nat → Nat → List JF → Except Flt (List JF)
  | 0, _, out => .ok out
  | q + 1, k, out => if (tkA ts k).kind = 6 then .ok out
    else match gJobF ts k (decide (32 ≤ out.length)) with
      | .error f => .error f
      | .ok x => if k < x.2 ∧ k < ts.length then gJobsF ts q x.2 (out ++ [x.1]) else .ok out
theorem gJobsF_eq (ts : List Tok) : ∀ (q k : Nat) (out : List JF), ts.length - k < q → gJobsF ts q k out = gJobs ts k out
  | 0, _, _, h => by omega
  | q + 1, k, out, h => by
    rw [gJobs, gJobsF, gJobF_eq]
    split
    · rfl
    cases gJob ts k (decide (32 ≤ out.length)) with
    | error f => rfl
    | ok x =>
      simp only
      by_cases hc : k < x.2 ∧ k < ts.length
      · rw [if_pos hc, dif_pos hc, gJobsF_eq ts q _ _ (by omega)]
      · rw [if_neg hc, dif_neg hc]
def gParseE (s : List UInt8) : Except Flt (List JF) := match lexE s with
  | .error f => .error f
  | .ok ts => gJobsF ts (ts.length + 1) 0 []
theorem gParseE_eq (s : List UInt8) : gParseE s = gParse s := by
  unfold gParseE gParse
  rw [lexE_eq]
  cases lex s with
  | error f => rfl
  | ok ts => exact gJobsF_eq ts _ _ _ (by omega)
def ex1 : List UInt8 := [106, 111, 98, 32, 97, 32, 123, 32, 114, 117, 110, 32, 34, 120, 34, 32, 125]
def ex2 : List UInt8 := [106, 111, 98, 32, 97, 32, 123, 32, 114, 117, 110, 32, 125]
theorem gParse_ex1 : gParse ex1 = .ok [{ job0 ⟨1, [97], 1, 5⟩ with run := [120] }] := by rw [← gParseE_eq]; rfl
theorem gParse_ex2 : gParse ex2 = .error ⟨60, 1, 13⟩ := by rw [← gParseE_eq]; rfl
end Go.Proofs.YtkhhlmonhapmaaaGreatDoor
