import Derived.Test.YtkhhlmonhapmaaaGreatDoorW26
/- A walk over symbolic memory: functions that may panic. No program in sight. -/
set_option linter.unusedSimpArgs false
set_option linter.unusedVariables false
namespace Go.Proofs.YtkhhlmonhapmaaaGreatDoor
open Go.RowKit
section
variable {P : Program} {Δ : List Deferred} {V O : Nat → Prop} {w0 w w' : World} {H H' D : List Hp} {T T' : List AV} {a : Act} {o : Oper} {ops : Array Oper} {Q : Post}
def one1 (pv : Value) : List PanicEntry := [{ v := pv, recovered := false }]
def SpecP (P : Program) (f : FuncId) (H : List Hp) (args : List AV) (Q : AV → List Hp → Prop) (QP : Value → List Hp → Prop) : Prop :=
  ∀ (V : Nat → Prop) (w : World) (vs : List Value), (∀ k, V k → k < w.heap.size) → HOk V w H → DenL (FB V H) w args vs → GL (blks H) w →
    Calls P f vs.toArray w fun e w' => (∃ r H' v, Q r H' ∧ e = .returned v ∧ Den (FB V H') w' r v ∧ HOk V w' H' ∧ Fr (blks H) w w' ∧ ∀ h ∈ H', ∀ k, h.blk = some k → blks H k ∨ w.heap.size ≤ k) ∨
      ∃ pv H', QP pv H' ∧ e = .panicked (one1 pv) ∧ HOk V w' H' ∧ Fr (blks H) w w' ∧ ∀ h ∈ H', ∀ k, h.blk = some k → blks H k ∨ w.heap.size ≤ k
theorem SpecP.mono {f : FuncId} {args : List AV} {Q Q' : AV → List Hp → Prop} {QP QP' : Value → List Hp → Prop} (h : SpecP P f H args Q QP) (hq : ∀ r H', Q r H' → Q' r H') (hp : ∀ v H', QP v H' → QP' v H') : SpecP P f H args Q' QP' := fun V w vs h1 h2 h3 h4 =>
  (h V w vs h1 h2 h3 h4).mono fun e w' he => by
    rcases he with ⟨r, H', v, q, rest⟩ | ⟨pv, H', q, rest⟩
    · exact .inl ⟨r, H', v, hq _ _ q, rest⟩
    · exact .inr ⟨pv, H', hp _ _ q, rest⟩
theorem SpecP.no {f : FuncId} {args : List AV} {Q : AV → List Hp → Prop} (h : SpecP P f H args Q fun _ _ => False) : Spec P f H args Q := fun V w vs h1 h2 h3 h4 => (h V w vs h1 h2 h3 h4).mono fun e w' he => by
  rcases he with he | ⟨pv, H', q, _⟩
  · exact he
  · exact q.elim
def endP (P : Program) (fn : Func) (Q : AV → List Hp → Prop) (QP : Value → List Hp → Prop) : Post
  | .panic ch, T, H => ∃ pv H', ch = one1 pv ∧ Weak H [] H' [] ∧ QP pv H'
  | e, T, H => endA P fn Q e T H
theorem endP_ret {fn : Func} {Q : AV → List Hp → Prop} {QP : Value → List Hp → Prop} (r : AV) (H' : List Hp) (h : Res P fn T H r H') (q : Q r H') : endP P fn Q QP .ret T H := ⟨.inl rfl, r, H', h, q⟩
theorem endP_normal {fn : Func} {Q : AV → List Hp → Prop} {QP : Value → List Hp → Prop} (r : AV) (H' : List Hp) (h : Res P fn T H r H') (q : Q r H') : endP P fn Q QP .normal T H := ⟨.inr rfl, r, H', h, q⟩
theorem endP_panic {fn : Func} {Q : AV → List Hp → Prop} {QP : Value → List Hp → Prop} (pv : Value) (H' : List Hp) (h : Weak H [] H' []) (q : QP pv H') : endP P fn Q QP (.panic (one1 pv)) T H := ⟨pv, H', rfl, h, q⟩
theorem SpecP_of {f : FuncId} {fn : Func} {c : Code} {args : List AV} {Q : AV → List Hp → Prop} {QP : Value → List Hp → Prop} (hf : P.funcs[f]? = some fn) (hb : fn.body = some c)
    (h : awp P c (endP P fn Q QP) (args ++ List.replicate (fn.ntmps - args.length) .top) H) : SpecP P f H args Q QP := by
  intro V w vs hV hH hd hgl
  have hlen := hd.len
  refine calls_of_wp hf hb ?_
  have r : Rel [] V (blks H) w H (args ++ List.replicate (fn.ntmps - args.length) .top) { tmps := vs.toArray ++ Array.replicate (fn.ntmps - vs.toArray.size) undef, defers := [] } w := by
    refine ⟨?_, hH, Fr.refl _ _, fun x hx k hk => .inl ⟨x, hx, hk⟩, rfl, hV, hgl⟩
    simp only [Array.toList_append, Array.toList_replicate, List.size_toArray, hlen]
    refine hd.app (DenL.of (by simp) fun j av u h1 h2 => ?_)
    rw [List.getElem?_replicate] at h1
    split at h1
    · cases h1; rw [Den]; trivial
    · cases h1
  refine wp_mono (h [] V (blks H) w _ w r) ?_
  rintro e a' w' ⟨T', H1, r1, he⟩
  have hret : endA P fn Q e T' H1 → (e = .ret ∨ e = .normal) → bodyPost P fn (fun e w' => (∃ r H' v, Q r H' ∧ e = .returned v ∧ Den (FB V H') w' r v ∧ HOk V w' H' ∧ Fr (blks H) w w' ∧ ∀ h ∈ H', ∀ k, h.blk = some k → blks H k ∨ w.heap.size ≤ k) ∨
      ∃ pv H', QP pv H' ∧ e = .panicked (one1 pv) ∧ HOk V w' H' ∧ Fr (blks H) w w' ∧ ∀ h ∈ H', ∀ k, h.blk = some k → blks H k ∨ w.heap.size ≤ k) e a' w' := by
    rintro ⟨_, res, H', hres, hq⟩ he
    obtain ⟨v, g1, g2, g3, g4⟩ := hres [] V (blks H) w a' w' r1
    have := (⟨res, H', v, hq, rfl, g2, g3, r1.fr, fun x hx k hk => by obtain ⟨y, hy, e⟩ := g4 x hx k hk; exact r1.own y hy k e⟩ : ∃ r H' v', Q r H' ∧ Ending.returned v = .returned v' ∧ Den (FB V H') w' r v' ∧ HOk V w' H' ∧ Fr (blks H) w w' ∧ ∀ h ∈ H', ∀ k, h.blk = some k → blks H k ∨ w.heap.size ≤ k)
    rcases he with rfl | rfl
    · exact ⟨r1.defers, v, g1, .inl this⟩
    · exact ⟨r1.defers, v, g1, .inl this⟩
  cases e with
  | panic ch =>
    obtain ⟨pv, H', rfl, hw, hq⟩ := he
    obtain ⟨k1, -, k3⟩ := forgetL (vs := []) r1.hok (by rw [DenL]) hw
    exact ⟨r1.defers, .inr ⟨pv, H', hq, rfl, k1, r1.fr, fun x hx k hk => by obtain ⟨y, hy, e⟩ := k3 x hx k hk; exact r1.own y hy k e⟩⟩
  | ret => exact hret he (.inl rfl)
  | normal => exact hret he (.inr rfl)
  | _ => rcases he.1 with h | h <;> cases h
theorem wp_callP_of {Kc : Act → World → Prop} {Qc : Exit → Act → World → Prop} {c : Operand} {args : Array Operand} {tys : Array TypeId} {f : FuncId} {fn : Func} {fs cs vs : Array Value} (ho : o.op = .call { callee := .value c, args := args, argTypes := tys }) (hc : a.eval c = .func (.func f) fs cs)
    (hf : P.funcs[f]? = some fn) (hn : fn.name ≠ "runtime.NumGoroutine") (hb : fn.body.isSome = true) (hv : fs ++ args.map a.eval ++ cs = vs)
    (h : Calls P f vs w fun e w' => (∃ v, e = .returned v ∧ Kc (a.put o.dst v) w') ∨ ∃ ch, e = .panicked ch ∧ Qc (.panic ch) a w') : o.wp P a w Kc Qc := by
  have hrun : (execOp a.eval o).run P w = .ok (.enter f vs) w := by
    cases hbb : fn.body with
    | none => rw [hbb] at hb; cases hb
    | some c => simp [execOp, ho, resolve, hc, Deferred.ofValue, invoke, callFunc, hf, hn, hbb, ← hv]
  unfold Oper.wp
  rw [hrun]
  simp only [Oper.upon]
  refine h.mono ?_
  rintro e w' (⟨v, rfl, hk⟩ | ⟨ch, rfl, hk⟩)
  · exact hk
  · exact hk
theorem Rel.called {H1 R : List Hp} (r1 : Rel Δ V O w0 (H1 ++ R) T a w) (hok' : HOk (FB V R) w' H') (hfr : Fr (blks H1) w w') (hown : ∀ h ∈ H', ∀ k, h.blk = some k → blks H1 k ∨ w.heap.size ≤ k) :
    Rel Δ V O w0 (H' ++ R) T a w' ∧ ∀ res v, Den (FB (FB V R) H') w' res v → Den (FB V (H' ++ R)) w' res v := by
  have hap := List.pairwise_append.1 r1.hok.apart
  have hVF' : ∀ H1 k, FB (FB V R) H1 k ↔ FB V (H1 ++ R) k := fun H1 k => by
    simp only [FB, List.mem_append]
    constructor
    · rintro ((h | ⟨x, hx, e⟩) | ⟨x, hx, e⟩)
      · exact .inl h
      · exact .inr ⟨x, .inr hx, e⟩
      · exact .inr ⟨x, .inl hx, e⟩
    · rintro (h | ⟨x, hx | hx, e⟩)
      · exact .inl (.inl h)
      · exact .inr ⟨x, hx, e⟩
      · exact .inl (.inr ⟨x, hx, e⟩)
  have hF : ∀ k, FB V (H' ++ R) k → FB V (H1 ++ R) k ∨ w.heap.size ≤ k := fun k hk => by
    rcases (hVF' H' k).2 hk with hk | ⟨x, hx, e⟩
    · exact .inl ((hVF' H1 k).1 (.inl hk))
    · rcases hown x hx k e with ⟨y, hy, e'⟩ | h
      · exact .inl ((hVF' H1 k).1 (.inr ⟨y, hy, e'⟩))
      · exact .inr h
  have hw : ∀ k, k < w.heap.size → ¬ FB V (H1 ++ R) k → w'.heap[k]? = w.heap[k]? := fun k hk hn => hfr.block k hk fun ⟨y, hy, e⟩ => hn (.inr ⟨y, by simp [hy], e⟩)
  refine ⟨⟨DenL.conv hF hw _ _ r1.tmps, ⟨fun x hx => ?_, List.pairwise_append.2 ⟨hok'.apart, hap.2.1, fun x hx y hy k hk e => ?_⟩, fun x hx k hk => ?_⟩, ?_, fun x hx k hk => ?_, r1.defers, r1.vlt, r1.gl⟩, fun res v hdv => hdv.weak fun k hk => (hVF' H' k).2 hk⟩
  · rcases List.mem_append.1 hx with hx | hx
    · exact (hok'.ok x hx).weak fun k hk => (hVF' H' k).2 hk
    · exact (r1.hok.ok x (by simp [hx])).conv hF hw hfr.size fun k hk => hfr.block k (r1.hok.lt x (by simp [hx]) k hk).1 fun ⟨y, hy, e⟩ => hap.2.2 y hy x hx k e hk
  · exact (hok'.lt x hx k hk).2 (.inr ⟨y, hy, e⟩)
  · rcases List.mem_append.1 hx with hx | hx
    · exact ⟨(hok'.lt x hx k hk).1, fun hv => (hok'.lt x hx k hk).2 (.inl hv)⟩
    · exact ⟨Nat.lt_of_lt_of_le (r1.hok.lt x (by simp [hx]) k hk).1 hfr.size, (r1.hok.lt x (by simp [hx]) k hk).2⟩
  · refine r1.fr.trans hfr fun k hk hb => ?_
    obtain ⟨y, hy, e⟩ := hb
    rcases r1.own y (by simp [hy]) k e with h | h
    · exact h
    · omega
  · rcases List.mem_append.1 hx with hx | hx
    · rcases hown x hx k hk with ⟨y, hy, e⟩ | h
      · exact r1.own y (by simp [hy]) k e
      · exact .inr (Nat.le_trans r1.fr.size h)
    · exact r1.own x (by simp [hx]) k hk
theorem awpL_panic {rest : List Oper} {x : Operand} {t : TypeId} {v : Value} (hg : o.guard = none) (ho : o.op = .panic x) (hx : ev T x = .x (.iface t v)) (h : Q (.panic (one1 (.iface t v))) T H) : awpL P ops Q (o :: rest) T H := fun Δ V O w0 a w r => wpList_plain hg fun Kc hKc => by
  have hrun : (execOp a.eval o).run P w = .halt (.panic (.iface t v)) w := by
    simp [execOp, ho, r.evx hx, Instr.panic]
  unfold Oper.wp
  rw [hrun, Oper.upon_panic]
  exact ⟨T, H, r, h⟩
theorem thenA_panic {Kc : List AV → List Hp → Prop} {ch : List PanicEntry} (h : Q (.panic ch) T H) : thenA Kc Q (.panic ch) T H := h
theorem inBlockA_panic {id : Nat} {ch : List PanicEntry} (h : Q (.panic ch) T H) : inBlockA id Q (.panic ch) T H := h
end
end Go.Proofs.YtkhhlmonhapmaaaGreatDoor
namespace Go.Proofs.YtkhhlmonhapmaaaGreatDoor
open Go.RowKit
section
variable {P : Program} {Δ : List Deferred} {V O : Nat → Prop} {w0 w w' : World} {B H H' D : List Hp} {T T' : List AV} {a a' : Act} {o : Oper} {ops : Array Oper} {Q : Post} {K : List AV → List Hp → Prop} {X : List PanicEntry → List AV → List Hp → Prop} {listed : Array Bool} {fuel : Nat} {DD : List Nat}
def StpP (P : Program) (o : Oper) (T : List AV) (H : List Hp) (K : List AV → List Hp → Prop) (X : List PanicEntry → List AV → List Hp → Prop) : Prop :=
  ∀ Δ V O w0 a w (Kc : Act → World → Prop) (Qc : Exit → Act → World → Prop), Rel Δ V O w0 H T a w → (∀ T' H' a' w', K T' H' → Rel Δ V O w0 H' T' a' w' → Kc a' w') → (∀ ch T' H' a' w', X ch T' H' → Rel Δ V O w0 H' T' a' w' → Qc (.panic ch) a' w') → o.wp P a w Kc Qc
theorem StpP_call {c : Operand} {args : Array Operand} {tys : Array TypeId} {fs cs : Array Value} (f : FuncId) (fn : Func) (H1 R : List Hp) (avs : List AV) (Qf : AV → List Hp → Prop) (QP : Value → List Hp → Prop) (ho : o.op = .call { callee := .value c, args := args, argTypes := tys }) (hc : ev T c = .x (.func (.func f) fs cs))
    (hf : P.funcs[f]? = some fn) (hn : fn.name ≠ "runtime.NumGoroutine") (hb : fn.body.isSome = true) (hp : H.Perm (H1 ++ R)) (hargs : VwL [] (fs.toList.map .x ++ args.toList.map (ev T) ++ cs.toList.map .x) avs) (hS : SpecP P f H1 avs Qf QP)
    (hK : ∀ r H', Qf r H' → K (putT T o.dst r) (H' ++ R)) (hP : ∀ pv H', QP pv H' → X (one1 pv) T (H' ++ R)) : StpP P o T H K X := fun Δ V O w0 a w Kc Qc r hKc hXc => by
  have r1 := r.perm hp
  have hap := List.pairwise_append.1 r1.hok.apart
  have hVF : ∀ k, FB (FB V R) H1 k ↔ FB V (H1 ++ R) k := fun k => by
    simp only [FB, List.mem_append]
    constructor
    · rintro ((h | ⟨x, hx, e⟩) | ⟨x, hx, e⟩)
      · exact .inl h
      · exact .inr ⟨x, .inr hx, e⟩
      · exact .inr ⟨x, .inl hx, e⟩
    · rintro (h | ⟨x, hx | hx, e⟩)
      · exact .inl (.inl h)
      · exact .inr ⟨x, hx, e⟩
      · exact .inl (.inr ⟨x, hx, e⟩)
  have hV : ∀ k, FB V R k → k < w.heap.size := fun k hk => by
    rcases hk with hk | ⟨x, hx, e⟩
    · exact Nat.lt_of_lt_of_le (r.vlt k hk) r.fr.size
    · exact (r1.hok.lt x (by simp [hx]) k e).1
  have hH1 : HOk (FB V R) w H1 := ⟨fun x hx => (r1.hok.ok x (by simp [hx])).weak fun k hk => (hVF k).1 hk, hap.1, fun x hx k hk => ⟨(r1.hok.lt x (by simp [hx]) k hk).1, fun hv => by
    rcases hv with hv | ⟨y, hy, e⟩
    · exact (r1.hok.lt x (by simp [hx]) k hk).2 hv
    · exact hap.2.2 x hx y hy k hk e⟩⟩
  have hd : DenL (FB (FB V R) H1) w avs (fs.toList ++ args.toList.map a.eval ++ cs.toList) := hargs.den (fun k hk => (hVF k).1 hk) (fun h hh => by cases hh) _ ((DenL.exact.app (denL_map r1 args.toList)).app DenL.exact)
  refine wp_callP_of ho (r.evx hc) hf hn hb (vs := (fs.toList ++ args.toList.map a.eval ++ cs.toList).toArray) (by apply Array.toList_inj.1; simp) ?_
  refine (hS (FB V R) w _ hV hH1 hd (r1.gb.mono fun k ⟨x, hx, e⟩ => ⟨x, by simp [hx], e⟩)).mono ?_
  rintro e w' (⟨res, H', v, hq, rfl, hdv, hok', hfr, hown⟩ | ⟨pv, H', hq, rfl, hok', hfr, hown⟩)
  · obtain ⟨k1, k2⟩ := r1.called hok' hfr hown
    exact .inl ⟨v, rfl, hKc _ _ _ _ (hK res H' hq) (k1.put _ (k2 _ _ hdv))⟩
  · exact .inr ⟨_, rfl, hXc _ _ _ _ _ (hP pv H' hq) (r1.called hok' hfr hown).1⟩
theorem awpL_consP {rest : List Oper} (hg : o.guard = none) (h : StpP P o T H (awpL P ops Q rest) fun ch T H => Q (.panic ch) T H) : awpL P ops Q (o :: rest) T H := fun Δ V O w0 a w r => wpList_plain hg fun Kc hKc =>
  h Δ V O w0 a w _ _ r (fun T' H' a' w' hk hr => hKc _ _ (hk Δ V O w0 a' w' hr)) fun ch T' H' a' w' hx hr => ⟨T', H', hr, hx⟩
theorem awpP_1P (i : Nat) {o : Oper} {l : List Oper} (hr : Region.ready .any l.toArray listed = [i]) (hi : nthO l i = some o) (hg : o.guard = none) (h : StpP P o T H (awpP P l.toArray Q DD B fuel (listed.setIfInBounds i true)) fun ch T H => Q (.panic ch) T (B ++ H)) : awpP P l.toArray Q DD B (fuel + 1) listed T H := fun Δ V O w0 wr a w r hS =>
  ⟨fun h0 => (by rw [hr] at h0; cases h0), fun j hj => by
    rw [hr, List.mem_singleton] at hj; subst hj
    have hi : l.toArray[j]? = some o := by rw [List.getElem?_toArray, ← nthO_eq]; exact hi
    unfold wpOp
    simp only [hi]
    rw [if_pos (by simp [Region.wanted, hg])]
    refine .inl (h _ _ _ _ a w _ _ r.aside (fun T' H' a' w' hk hr => ?_) fun ch T' H' a' w' hx hr => ⟨T', B ++ H', (r.rejoin hr).1, hx⟩)
    obtain ⟨r', hs⟩ := r.rejoin hr
    have hS' : SameB wr B w' := fun k hk => (hs k hk).trans (hS k hk)
    exact ⟨fun _ _ => hS', hk Δ V O w0 wr a' w' r' hS'⟩⟩
theorem act_unput (a : Act) (d : Option Tmp) (v : Value) : ∃ u, (a.put d v).put d u = a := by
  cases d with
  | none => exact ⟨v, rfl⟩
  | some d =>
    obtain ⟨t, ds⟩ := a
    refine ⟨t.getD d undef, ?_⟩
    simp only [Act.put]
    congr 1
    apply Array.ext_getElem?
    intro i
    by_cases hd : d < t.size
    · by_cases e : d = i
      · subst e
        simp [Array.getElem?_setIfInBounds, hd]
      · simp [Array.getElem?_setIfInBounds, e]
    · by_cases e : d = i
      · subst e
        simp [Array.getElem?_setIfInBounds, hd]
      · simp [Array.getElem?_setIfInBounds, e]
theorem lift_unput {c : List PanicEntry} {d : Option Tmp} {v : Value} (hpan : ∀ c T T' H, Q (.panic c) T H → Q (.panic c) T' H) (h : lift Δ V O w0 Q (.panic c) (a.put d v) w) : lift Δ V O w0 Q (.panic c) a w := by
  obtain ⟨T, H, r, q⟩ := h
  obtain ⟨u, e⟩ := act_unput a d v
  have r2 := r.put d (av := .top) (v := u) (by rw [Den]; trivial)
  rw [e] at r2
  exact ⟨_, H, r2, hpan _ _ _ _ q⟩
theorem awpP_yieldI (i : Nat) {o : Oper} {l : List Oper} (hi : nthO l i = some o) (hg : o.guard = none) (hc : takeOkP l.toArray listed i DD = true) (hpan : ∀ c T T' H, Q (.panic c) T H → Q (.panic c) T' H) (av : AV)
    (h : ∀ V wr a w, OK V (B ++ H) (ev T) o a w → SameB wr B w → ∃ v, (∀ w', SameB wr B w' → (execOp a.eval o).run P w' = .ok (.value v) w') ∧ Den (FB V (B ++ H)) w av v) (hK : awpP P l.toArray Q DD B fuel (listed.setIfInBounds i true) (putT T o.dst av) H) : awpP P l.toArray Q DD B (fuel + 1) listed T H := by
  have hi : l.toArray[i]? = some o := by rw [List.getElem?_toArray, ← nthO_eq]; exact hi
  intro Δ V O w0 wr a w r hS
  obtain ⟨v, hv, hd⟩ := h V wr a w (r.oks o) hS
  have hD := takeOkP_D hc
  unfold takeOkP takeOk at hc
  simp only [Bool.and_eq_true] at hc
  exact wpAnyP.first hi hc.1.1.1 (fun c a w h => lift_unput hpan h) hD (Region.free_spec hi hc.1.1.2) (by simpa using hc.1.2) (.inl ⟨by simp [Region.wanted, hg], hv⟩) hS (hK Δ V O w0 wr _ w (r.put _ hd) hS)
theorem awpP_takeI (i : Nat) {o : Oper} {l : List Oper} (hi : nthO l i = some o) (hg : o.guard = none) (hc : takeOkP l.toArray listed i DD = true) (hpan : ∀ c T T' H, Q (.panic c) T H → Q (.panic c) T' H) (av : AV) (h : WInd P o (ev T) (B ++ H) av) (hK : awpP P l.toArray Q DD B fuel (listed.setIfInBounds i true) (putT T o.dst av) H) : awpP P l.toArray Q DD B (fuel + 1) listed T H :=
  awpP_yieldI i hi hg hc hpan av (fun V wr a w ok _ => by obtain ⟨v, hv, hd⟩ := h V a w ok; exact ⟨v, fun w' _ => hv w', hd⟩) hK
theorem awpP_loadI (i : Nat) {o : Oper} {l : List Oper} (hi : nthO l i = some o) (hg : o.guard = none) (hc : takeOkP l.toArray listed i DD = true) (hpan : ∀ c T T' H, Q (.panic c) T H → Q (.panic c) T' H) (p : Nat) (t : TypeId) (x : Operand) (b off : Nat) (cells : List AV) (agg : Bool) (n : Nat)
    (ho : o.op = .load t x) (hx : ev T x = .x (.pointer (some ⟨b, off, none⟩))) (hb : B[p]? = some (.box b cells)) (ht : aggT P t = some (agg, n)) (hn : off + n ≤ cells.length) (hn0 : off < cells.length)
    (hK : awpP P l.toArray Q DD B fuel (listed.setIfInBounds i true) (putT T o.dst (ldA agg n (cells.drop off))) H) : awpP P l.toArray Q DD B (fuel + 1) listed T H :=
  awpP_yieldI i hi hg hc hpan _ (fun V wr a w ok hS => by
    obtain ⟨vals, hd, hl, hcl⟩ := ok.hok.ok (.box b cells) (List.mem_append_left _ (List.mem_of_getElem? hb))
    obtain ⟨v, hr, hdv⟩ := run_loadVar_vals (P := P) t agg n ht w _ b off (cells.drop off) (vals.drop off) (hd.drop off) (by simp; omega) (fun _ => by simp; omega)
    refine ⟨v, fun w' hS' => ?_, hdv⟩
    have hbk : blks B b := ⟨_, List.mem_of_getElem? hb, rfl⟩
    have hsame : w'.heap[b]? = w.heap[b]? := (hS' b hbk).trans (hS b hbk).symm
    have := hr w' fun j u hj => by
      rw [World.cell?_of_block (a := ⟨b, off + j, none⟩) hsame]; exact (hcl (off + j) u (by rwa [List.getElem?_drop] at hj)).1
    simp [execOp, ho, ok.evx (x := x) (by simp [ho, Op.operands]) hx, Instr.loadAt, Instr.sureAddr, this]) hK
end
end Go.Proofs.YtkhhlmonhapmaaaGreatDoor
