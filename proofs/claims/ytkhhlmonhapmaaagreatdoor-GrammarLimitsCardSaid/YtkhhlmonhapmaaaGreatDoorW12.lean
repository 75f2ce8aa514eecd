import Derived.Test.YtkhhlmonhapmaaaGreatDoorW11
import Derived.Test.YtkhhlmonhapmaaaGreatDoorRows
import Derived.Test.YtkhhlmonhapmaaaGreatDoorW9
import Derived.Test.YtkhhlmonhapmaaaGreatDoorW0
import Derived.Lib.AppendZeros
/- A walk over symbolic memory: calls that may panic in regions that draw their order. No program in sight. -/
namespace Go.Proofs.YtkhhlmonhapmaaaGreatDoor
open Go.RowKit
set_option linter.unusedSimpArgs false
set_option linter.unusedVariables false
section
variable {P : Program} {Δ : List Deferred} {V O : Nat → Prop} {w0 w w' : World} {B H H' D : List Hp} {T T' : List AV} {a a' : Act} {o : Oper} {ops : Array Oper} {Q : Post} {K : List AV → List Hp → Prop} {X : List PanicEntry → List AV → List Hp → Prop} {listed : Array Bool} {fuel : Nat} {DD : List Nat}
def StpP (P : Program) (o : Oper) (T : List AV) (H : List Hp) (K : List AV → List Hp → Prop) (X : List PanicEntry → List AV → List Hp → Prop) : Prop :=
  ∀ Δ V O w0 a w (Kc : Act → World → Prop) (Qc : Exit → Act → World → Prop), Rel Δ V O w0 H T a w → (∀ T' H' a' w', K T' H' → Rel Δ V O w0 H' T' a' w' → Kc a' w') → (∀ ch T' H' a' w', X ch T' H' → Rel Δ V O w0 H' T' a' w' → Qc (.panic ch) a' w') → o.wp P a w Kc Qc
theorem StpP_call {c : Operand} {args : Array Operand} {tys : Array TypeId} {fs cs : Array Value} (f : FuncId) (fn : Func) (H1 R : List Hp) (avs : List AV) (Qf : AV → List Hp → Prop) (QP : Value → List Hp → Prop) (ho : o.op = .call { callee := .value c, args := args, argTypes := tys }) (hc : ev T c = .x (.func (.func f) fs cs))
    (hf : P.funcs[f]? = some fn) (hn : fn.name ≠ "runtime.NumGoroutine") (hb : fn.body.isSome = true) (hp : H.Perm (H1 ++ R)) (hargs : VwL [] (fs.toList.map .x ++ args.toList.map (ev T) ++ cs.toList.map .x) avs) (hS : SpecP P f H1 avs Qf QP)
    (hK : ∀ r H', Qf r H' → K (putT T o.dst r) (H' ++ R)) (hP : ∀ pv H', QP pv H' → X (one1 pv) T (H' ++ R)) : StpP P o T H K X := fun Δ V O w0 a w Kc Qc r hKc hXc => by
  have r1 := r.perm hp
  have hap := List.pairwise_append.1 r1.hok.apart
  have hVF : ∀ k, FB (FB V R) H1 k ↔ FB V (H1 ++ R) k := fun k => by
    simp only [FB, List.mem_append]
    constructor
    · rintro ((h | ⟨x, hx, e⟩) | ⟨x, hx, e⟩)
      · exact .inl h
      · exact .inr ⟨x, .inr hx, e⟩
      · exact .inr ⟨x, .inl hx, e⟩
    · rintro (h | ⟨x, hx | hx, e⟩)
      · exact .inl (.inl h)
      · exact .inr ⟨x, hx, e⟩
      · exact .inl (.inr ⟨x, hx, e⟩)
  have hV : ∀ k, FB V R k → k < w.heap.size := fun k hk => by
    rcases hk with hk | ⟨x, hx, e⟩
    · exact Nat.lt_of_lt_of_le (r.vlt k hk) r.fr.size
    · exact (r1.hok.lt x (by simp [hx]) k e).1
  have hH1 : HOk (FB V R) w H1 := ⟨fun x hx => (r1.hok.ok x (by simp [hx])).weak fun k hk => (hVF k).1 hk, hap.1, fun x hx k hk => ⟨(r1.hok.lt x (by simp [hx]) k hk).1, fun hv => by
    rcases hv with hv | ⟨y, hy, e⟩
    · exact (r1.hok.lt x (by simp [hx]) k hk).2 hv
    · exact hap.2.2 x hx y hy k hk e⟩⟩
  have hd : DenL (FB (FB V R) H1) w avs (fs.toList ++ args.toList.map a.eval ++ cs.toList) := hargs.den (fun k hk => (hVF k).1 hk) (fun h hh => by cases hh) _ ((DenL.exact.app (denL_map r1 args.toList)).app DenL.exact)
  refine wp_callP_of ho (r.evx hc) hf hn hb (vs := (fs.toList ++ args.toList.map a.eval ++ cs.toList).toArray) (by apply Array.toList_inj.1; simp) ?_
  refine (hS (FB V R) w _ hV hH1 hd (r1.gb.mono fun k ⟨x, hx, e⟩ => ⟨x, by simp [hx], e⟩)).mono ?_
  rintro e w' (⟨res, H', v, hq, rfl, hdv, hok', hfr, hown⟩ | ⟨pv, H', hq, rfl, hok', hfr, hown⟩)
  · obtain ⟨k1, k2⟩ := r1.called hok' hfr hown
    exact .inl ⟨v, rfl, hKc _ _ _ _ (hK res H' hq) (k1.put _ (k2 _ _ hdv))⟩
  · exact .inr ⟨_, rfl, hXc _ _ _ _ _ (hP pv H' hq) (r1.called hok' hfr hown).1⟩
theorem awpL_consP {rest : List Oper} (hg : o.guard = none) (h : StpP P o T H (awpL P ops Q rest) fun ch T H => Q (.panic ch) T H) : awpL P ops Q (o :: rest) T H := fun Δ V O w0 a w r => wpList_plain hg fun Kc hKc =>
  h Δ V O w0 a w _ _ r (fun T' H' a' w' hk hr => hKc _ _ (hk Δ V O w0 a' w' hr)) fun ch T' H' a' w' hx hr => ⟨T', H', hr, hx⟩
theorem awpP_1P (i : Nat) {o : Oper} {l : List Oper} (hr : Region.ready .any l.toArray listed = [i]) (hi : nthO l i = some o) (hg : o.guard = none) (h : StpP P o T H (awpP P l.toArray Q DD B fuel (listed.setIfInBounds i true)) fun ch T H => Q (.panic ch) T (B ++ H)) : awpP P l.toArray Q DD B (fuel + 1) listed T H := fun Δ V O w0 wr a w r hS =>
  ⟨fun h0 => (by rw [hr] at h0; cases h0), fun j hj => by
    rw [hr, List.mem_singleton] at hj; subst hj
    have hi : l.toArray[j]? = some o := by rw [List.getElem?_toArray, ← nthO_eq]; exact hi
    unfold wpOp
    simp only [hi]
    rw [if_pos (by simp [Region.wanted, hg])]
    refine .inl (h _ _ _ _ a w _ _ r.aside (fun T' H' a' w' hk hr => ?_) fun ch T' H' a' w' hx hr => ⟨T', B ++ H', (r.rejoin hr).1, hx⟩)
    obtain ⟨r', hs⟩ := r.rejoin hr
    have hS' : SameB wr B w' := fun k hk => (hs k hk).trans (hS k hk)
    exact ⟨fun _ _ => hS', hk Δ V O w0 wr a' w' r' hS'⟩⟩
theorem act_unput (a : Act) (d : Option Tmp) (v : Value) : ∃ u, (a.put d v).put d u = a := by
  cases d with
  | none => exact ⟨v, rfl⟩
  | some d =>
    obtain ⟨t, ds⟩ := a
    refine ⟨t.getD d undef, ?_⟩
    simp only [Act.put]
    congr 1
    apply Array.ext_getElem?
    intro i
    by_cases hd : d < t.size
    · by_cases e : d = i
      · subst e
        simp [Array.getElem?_setIfInBounds, hd]
      · simp [Array.getElem?_setIfInBounds, e]
    · by_cases e : d = i
      · subst e
        simp [Array.getElem?_setIfInBounds, hd]
      · simp [Array.getElem?_setIfInBounds, e]
theorem lift_unput {c : List PanicEntry} {d : Option Tmp} {v : Value} (hpan : ∀ c T T' H, Q (.panic c) T H → Q (.panic c) T' H) (h : lift Δ V O w0 Q (.panic c) (a.put d v) w) : lift Δ V O w0 Q (.panic c) a w := by
  obtain ⟨T, H, r, q⟩ := h
  obtain ⟨u, e⟩ := act_unput a d v
  have r2 := r.put d (av := .top) (v := u) (by rw [Den]; trivial)
  rw [e] at r2
  exact ⟨_, H, r2, hpan _ _ _ _ q⟩
theorem awpP_yieldI (i : Nat) {o : Oper} {l : List Oper} (hi : nthO l i = some o) (hg : o.guard = none) (hc : takeOkP l.toArray listed i DD = true) (hpan : ∀ c T T' H, Q (.panic c) T H → Q (.panic c) T' H) (av : AV)
    (h : ∀ V wr a w, OK V (B ++ H) (ev T) o a w → SameB wr B w → ∃ v, (∀ w', SameB wr B w' → (execOp a.eval o).run P w' = .ok (.value v) w') ∧ Den (FB V (B ++ H)) w av v) (hK : awpP P l.toArray Q DD B fuel (listed.setIfInBounds i true) (putT T o.dst av) H) : awpP P l.toArray Q DD B (fuel + 1) listed T H := by
  have hi : l.toArray[i]? = some o := by rw [List.getElem?_toArray, ← nthO_eq]; exact hi
  intro Δ V O w0 wr a w r hS
  obtain ⟨v, hv, hd⟩ := h V wr a w (r.oks o) hS
  have hD := takeOkP_D hc
  unfold takeOkP takeOk at hc
  simp only [Bool.and_eq_true] at hc
  exact wpAnyP.first hi hc.1.1.1 (fun c a w h => lift_unput hpan h) hD (Region.free_spec hi hc.1.1.2) (by simpa using hc.1.2) (.inl ⟨by simp [Region.wanted, hg], hv⟩) hS (hK Δ V O w0 wr _ w (r.put _ hd) hS)
theorem awpP_takeI (i : Nat) {o : Oper} {l : List Oper} (hi : nthO l i = some o) (hg : o.guard = none) (hc : takeOkP l.toArray listed i DD = true) (hpan : ∀ c T T' H, Q (.panic c) T H → Q (.panic c) T' H) (av : AV) (h : WInd P o (ev T) (B ++ H) av) (hK : awpP P l.toArray Q DD B fuel (listed.setIfInBounds i true) (putT T o.dst av) H) : awpP P l.toArray Q DD B (fuel + 1) listed T H :=
  awpP_yieldI i hi hg hc hpan av (fun V wr a w ok _ => by obtain ⟨v, hv, hd⟩ := h V a w ok; exact ⟨v, fun w' _ => hv w', hd⟩) hK
theorem awpP_loadI (i : Nat) {o : Oper} {l : List Oper} (hi : nthO l i = some o) (hg : o.guard = none) (hc : takeOkP l.toArray listed i DD = true) (hpan : ∀ c T T' H, Q (.panic c) T H → Q (.panic c) T' H) (p : Nat) (t : TypeId) (x : Operand) (b off : Nat) (cells : List AV) (agg : Bool) (n : Nat)
    (ho : o.op = .load t x) (hx : ev T x = .x (.pointer (some ⟨b, off, none⟩))) (hb : B[p]? = some (.box b cells)) (ht : aggT P t = some (agg, n)) (hn : off + n ≤ cells.length) (hn0 : off < cells.length)
    (hK : awpP P l.toArray Q DD B fuel (listed.setIfInBounds i true) (putT T o.dst (ldA agg n (cells.drop off))) H) : awpP P l.toArray Q DD B (fuel + 1) listed T H :=
  awpP_yieldI i hi hg hc hpan _ (fun V wr a w ok hS => by
    obtain ⟨vals, hd, hl, hcl⟩ := ok.hok.ok (.box b cells) (List.mem_append_left _ (List.mem_of_getElem? hb))
    obtain ⟨v, hr, hdv⟩ := run_loadVar_vals (P := P) t agg n ht w _ b off (cells.drop off) (vals.drop off) (hd.drop off) (by simp; omega) (fun _ => by simp; omega)
    refine ⟨v, fun w' hS' => ?_, hdv⟩
    have hbk : blks B b := ⟨_, List.mem_of_getElem? hb, rfl⟩
    have hsame : w'.heap[b]? = w.heap[b]? := (hS' b hbk).trans (hS b hbk).symm
    have := hr w' fun j u hj => by
      rw [World.cell?_of_block (a := ⟨b, off + j, none⟩) hsame]; exact (hcl (off + j) u (by rwa [List.getElem?_drop] at hj)).1
    simp [execOp, ho, ok.evx (x := x) (by simp [ho, Op.operands]) hx, Instr.loadAt, Instr.sureAddr, this]) hK
end
end Go.Proofs.YtkhhlmonhapmaaaGreatDoor
/- What the types of the program are: sizes, fields, zeros, elements. Printed by a small program out of the program's own table; each is proved by the kernel. -/
namespace Go.Proofs.YtkhhlmonhapmaaaGreatDoor
set_option maxRecDepth 100000
instance : HAgg Tryz.prog 3 false 1 := ⟨by kernel_rfl⟩
instance : HSize Tryz.prog 3 1 := ⟨by kernel_rfl⟩
instance : HAgg Tryz.prog 4 false 1 := ⟨by kernel_rfl⟩
instance : HSize Tryz.prog 4 1 := ⟨by kernel_rfl⟩
instance : HAgg Tryz.prog 9 false 1 := ⟨by kernel_rfl⟩
instance : HSize Tryz.prog 9 1 := ⟨by kernel_rfl⟩
instance : HAgg Tryz.prog 22 false 1 := ⟨by kernel_rfl⟩
instance : HEl Tryz.prog 22 3 1 := ⟨by kernel_rfl⟩
instance : HAgg Tryz.prog 28 false 1 := ⟨by kernel_rfl⟩
instance : HSize Tryz.prog 28 1 := ⟨by kernel_rfl⟩
instance : HEl Tryz.prog 28 9 1 := ⟨by kernel_rfl⟩
instance : HElem Tryz.prog 28 9 (Value.string ⟨#[]⟩) 1 16 := ⟨⟨by kernel_rfl, by kernel_rfl, rfl, by decide⟩⟩
instance : HAgg Tryz.prog 29 false 1 := ⟨by kernel_rfl⟩
instance : HSize Tryz.prog 29 1 := ⟨by kernel_rfl⟩
instance : HEl Tryz.prog 29 51 15 := ⟨by kernel_rfl⟩
instance : HElem Tryz.prog 29 51 (Value.agg #[Value.string ⟨#[]⟩, Value.string ⟨#[]⟩, Value.slice none 0 0, Value.slice none 0 0, Value.bool false, Value.string ⟨#[]⟩, Value.int IntKind.i64 0, Value.int IntKind.u64 0, Value.int IntKind.u64 0, Value.int IntKind.u64 0, Value.int IntKind.i64 0, Value.int IntKind.u64 0, Value.slice none 0 0, Value.int IntKind.i64 0, Value.int IntKind.i64 0]) 15 192 := ⟨⟨by kernel_rfl, by kernel_rfl, rfl, by decide⟩⟩
instance : HZero Tryz.prog 29 ((Value.slice none 0 0)) := ⟨by kernel_rfl⟩
instance : HAgg Tryz.prog 30 false 1 := ⟨by kernel_rfl⟩
instance : HSize Tryz.prog 30 1 := ⟨by kernel_rfl⟩
instance : HAgg Tryz.prog 32 true 3 := ⟨by kernel_rfl⟩
instance : HSize Tryz.prog 32 3 := ⟨by kernel_rfl⟩
instance : HPl Tryz.prog 32 [(0, 1), (1, 1), (2, 1)] [Value.int IntKind.i64 0, Value.int IntKind.i64 0, Value.int IntKind.i64 0] := ⟨by kernel_rfl⟩
instance : HZero Tryz.prog 32 ((Value.agg #[Value.int IntKind.i64 0, Value.int IntKind.i64 0, Value.int IntKind.i64 0])) := ⟨by kernel_rfl⟩
instance : HFld Tryz.prog 32 0 0 := ⟨by kernel_rfl⟩
instance : HFld Tryz.prog 32 1 1 := ⟨by kernel_rfl⟩
instance : HFld Tryz.prog 32 2 2 := ⟨by kernel_rfl⟩
instance : HAgg Tryz.prog 46 false 1 := ⟨by kernel_rfl⟩
instance : HAgg Tryz.prog 47 false 1 := ⟨by kernel_rfl⟩
instance : HSize Tryz.prog 47 1 := ⟨by kernel_rfl⟩
instance : HEl Tryz.prog 47 55 2 := ⟨by kernel_rfl⟩
instance : HElem Tryz.prog 47 55 (Value.agg #[Value.string ⟨#[]⟩, Value.string ⟨#[]⟩]) 2 32 := ⟨⟨by kernel_rfl, by kernel_rfl, rfl, by decide⟩⟩
instance : HAgg Tryz.prog 48 false 1 := ⟨by kernel_rfl⟩
instance : HSize Tryz.prog 48 1 := ⟨by kernel_rfl⟩
instance : HAgg Tryz.prog 49 false 1 := ⟨by kernel_rfl⟩
instance : HSize Tryz.prog 49 1 := ⟨by kernel_rfl⟩
instance : HEl Tryz.prog 49 53 2 := ⟨by kernel_rfl⟩
instance : HElem Tryz.prog 49 53 (Value.agg #[Value.int IntKind.i64 0, Value.int IntKind.u64 0]) 2 16 := ⟨⟨by kernel_rfl, by kernel_rfl, rfl, by decide⟩⟩
instance : HAgg Tryz.prog 51 true 15 := ⟨by kernel_rfl⟩
instance : HSize Tryz.prog 51 15 := ⟨by kernel_rfl⟩
instance : HPl Tryz.prog 51 [(0, 1), (1, 1), (2, 1), (3, 1), (4, 1), (5, 1), (6, 1), (7, 1), (8, 1), (9, 1), (10, 1), (11, 1), (12, 1), (13, 1), (14, 1)] [Value.string ⟨#[]⟩, Value.string ⟨#[]⟩, Value.slice none 0 0, Value.slice none 0 0, Value.bool false, Value.string ⟨#[]⟩, Value.int IntKind.i64 0, Value.int IntKind.u64 0, Value.int IntKind.u64 0, Value.int IntKind.u64 0, Value.int IntKind.i64 0, Value.int IntKind.u64 0, Value.slice none 0 0, Value.int IntKind.i64 0, Value.int IntKind.i64 0] := ⟨by kernel_rfl⟩
instance : HZero Tryz.prog 51 ((Value.agg #[Value.string ⟨#[]⟩, Value.string ⟨#[]⟩, Value.slice none 0 0, Value.slice none 0 0, Value.bool false, Value.string ⟨#[]⟩, Value.int IntKind.i64 0, Value.int IntKind.u64 0, Value.int IntKind.u64 0, Value.int IntKind.u64 0, Value.int IntKind.i64 0, Value.int IntKind.u64 0, Value.slice none 0 0, Value.int IntKind.i64 0, Value.int IntKind.i64 0])) := ⟨by kernel_rfl⟩
instance : HFld Tryz.prog 51 0 0 := ⟨by kernel_rfl⟩
instance : HFld Tryz.prog 51 1 1 := ⟨by kernel_rfl⟩
instance : HFld Tryz.prog 51 2 2 := ⟨by kernel_rfl⟩
instance : HFld Tryz.prog 51 3 3 := ⟨by kernel_rfl⟩
instance : HFld Tryz.prog 51 4 4 := ⟨by kernel_rfl⟩
instance : HFld Tryz.prog 51 5 5 := ⟨by kernel_rfl⟩
instance : HFld Tryz.prog 51 6 6 := ⟨by kernel_rfl⟩
instance : HFld Tryz.prog 51 7 7 := ⟨by kernel_rfl⟩
instance : HFld Tryz.prog 51 8 8 := ⟨by kernel_rfl⟩
instance : HFld Tryz.prog 51 9 9 := ⟨by kernel_rfl⟩
instance : HFld Tryz.prog 51 10 10 := ⟨by kernel_rfl⟩
instance : HFld Tryz.prog 51 11 11 := ⟨by kernel_rfl⟩
instance : HFld Tryz.prog 51 12 12 := ⟨by kernel_rfl⟩
instance : HFld Tryz.prog 51 13 13 := ⟨by kernel_rfl⟩
instance : HFld Tryz.prog 51 14 14 := ⟨by kernel_rfl⟩
instance : HAgg Tryz.prog 53 true 2 := ⟨by kernel_rfl⟩
instance : HPl Tryz.prog 53 [(0, 1), (1, 1)] [Value.int IntKind.i64 0, Value.int IntKind.u64 0] := ⟨by kernel_rfl⟩
instance : HAgg Tryz.prog 55 true 2 := ⟨by kernel_rfl⟩
instance : HPl Tryz.prog 55 [(0, 1), (1, 1)] [Value.string ⟨#[]⟩, Value.string ⟨#[]⟩] := ⟨by kernel_rfl⟩
instance : HFld Tryz.prog 55 0 0 := ⟨by kernel_rfl⟩
instance : HPl Tryz.prog 58 [(0, 1), (1, 1)] [Value.slice none 0 0, Value.int IntKind.i64 0] := ⟨by kernel_rfl⟩
instance : HFld Tryz.prog 58 0 0 := ⟨by kernel_rfl⟩
instance : HFld Tryz.prog 58 1 1 := ⟨by kernel_rfl⟩
instance : HElem Tryz.prog 59 5 (Value.int IntKind.u8 0) 1 1 := ⟨⟨by kernel_rfl, by kernel_rfl, rfl, by decide⟩⟩
instance : HAgg Tryz.prog 62 false 1 := ⟨by kernel_rfl⟩
instance : HEl Tryz.prog 62 70 4 := ⟨by kernel_rfl⟩
instance : HElem Tryz.prog 62 70 (Value.agg #[Value.int IntKind.i64 0, Value.string ⟨#[]⟩, Value.int IntKind.i64 0, Value.int IntKind.i64 0]) 4 40 := ⟨⟨by kernel_rfl, by kernel_rfl, rfl, by decide⟩⟩
instance : HAgg Tryz.prog 66 false 1 := ⟨by kernel_rfl⟩
instance : HPl Tryz.prog 68 [(0, 1), (1, 1)] [Value.slice none 0 0, Value.int IntKind.i64 0] := ⟨by kernel_rfl⟩
instance : HFld Tryz.prog 68 0 0 := ⟨by kernel_rfl⟩
instance : HFld Tryz.prog 68 1 1 := ⟨by kernel_rfl⟩
instance : HAgg Tryz.prog 70 true 4 := ⟨by kernel_rfl⟩
instance : HSize Tryz.prog 70 4 := ⟨by kernel_rfl⟩
instance : HPl Tryz.prog 70 [(0, 1), (1, 1), (2, 1), (3, 1)] [Value.int IntKind.i64 0, Value.string ⟨#[]⟩, Value.int IntKind.i64 0, Value.int IntKind.i64 0] := ⟨by kernel_rfl⟩
instance : HZero Tryz.prog 70 ((Value.agg #[Value.int IntKind.i64 0, Value.string ⟨#[]⟩, Value.int IntKind.i64 0, Value.int IntKind.i64 0])) := ⟨by kernel_rfl⟩
instance : HFld Tryz.prog 70 0 0 := ⟨by kernel_rfl⟩
instance : HFld Tryz.prog 70 1 1 := ⟨by kernel_rfl⟩
instance : HFld Tryz.prog 70 2 2 := ⟨by kernel_rfl⟩
instance : HFld Tryz.prog 70 3 3 := ⟨by kernel_rfl⟩
instance : HPl Tryz.prog 75 [(0, 1), (1, 1), (2, 3), (5, 1)] [Value.slice none 0 0, Value.int IntKind.i64 0, Value.int IntKind.i64 0, Value.int IntKind.i64 0, Value.int IntKind.i64 0, Value.slice none 0 0] := ⟨by kernel_rfl⟩
instance : HFld Tryz.prog 75 0 0 := ⟨by kernel_rfl⟩
instance : HFld Tryz.prog 75 1 1 := ⟨by kernel_rfl⟩
instance : HFld Tryz.prog 75 2 2 := ⟨by kernel_rfl⟩
instance : HFld Tryz.prog 75 3 5 := ⟨by kernel_rfl⟩
instance : HAgg Tryz.prog 85 false 1 := ⟨by kernel_rfl⟩
instance : HZero Tryz.prog 85 ((Value.int IntKind.i64 0)) := ⟨by kernel_rfl⟩
instance : HAgg Tryz.prog 88 false 1 := ⟨by kernel_rfl⟩
instance : HZero Tryz.prog 88 ((Value.pointer none)) := ⟨by kernel_rfl⟩
instance : HPl Tryz.prog 91 [(0, 1), (1, 1), (2, 1)] [Value.int IntKind.i64 0, Value.int IntKind.i64 0, Value.nilIface] := ⟨by kernel_rfl⟩
instance : HFld Tryz.prog 91 0 0 := ⟨by kernel_rfl⟩
instance : HFld Tryz.prog 91 1 1 := ⟨by kernel_rfl⟩
instance : HPl Tryz.prog 118 [(0, 1), (1, 1), (2, 1), (3, 1)] [Value.string ⟨#[]⟩, Value.int IntKind.i64 0, Value.int IntKind.i64 0, Value.int IntKind.i64 0] := ⟨by kernel_rfl⟩
instance : HFld Tryz.prog 118 0 0 := ⟨by kernel_rfl⟩
instance : HFld Tryz.prog 118 1 1 := ⟨by kernel_rfl⟩
instance : HFld Tryz.prog 118 2 2 := ⟨by kernel_rfl⟩
instance : HFld Tryz.prog 118 3 3 := ⟨by kernel_rfl⟩
theorem mixed : Tryz.prog.follows .mixedOrders = true := by kernel_rfl
end Go.Proofs.YtkhhlmonhapmaaaGreatDoor
/- The tokens of a text, in plain Lean. No program in sight. -/
namespace Go.Proofs.YtkhhlmonhapmaaaGreatDoor
open Go.RowKit
set_option linter.unusedSimpArgs false
set_option linter.unusedVariables false
def isLet (b : UInt8) : Bool := decide ((65 ≤ b.toNat ∧ b.toNat ≤ 90) ∨ (97 ≤ b.toNat ∧ b.toNat ≤ 122) ∨ b.toNat = 95)
def isDig (b : UInt8) : Bool := decide (48 ≤ b.toNat ∧ b.toNat ≤ 57)
def hexv (b : UInt8) : Option Nat :=
  if 48 ≤ b.toNat ∧ b.toNat ≤ 57 then some (b.toNat - 48)
  else if 97 ≤ b.toNat ∧ b.toNat ≤ 102 then some (b.toNat - 87)
  else if 65 ≤ b.toNat ∧ b.toNat ≤ 70 then some (b.toNat - 55) else none
theorem hexv_lt {b : UInt8} {n : Nat} (h : hexv b = some n) : n < 16 := by
  unfold hexv at h
  split at h
  · cases h; omega
  · split at h
    · cases h; omega
    · split at h
      · cases h; omega
      · cases h
def escd : List UInt8 → Option (UInt8 × Nat)
  | [] => none
  | d :: r =>
    if d.toNat = 34 ∨ d.toNat = 92 then some (d, 1) else if d.toNat = 110 then some (10, 1) else if d.toNat = 116 then some (9, 1)
    else if d.toNat = 120 then match r with
      | h :: l :: _ => match hexv h, hexv l with
        | some a, some b => some (UInt8.ofNat (16 * a + b), 3)
        | _, _ => none
      | _ => none
    else none
theorem escd_mark (d : UInt8) (r : List UInt8) (h : d.toNat = 34 ∨ d.toNat = 92) : escd (d :: r) = some (d, 1) := by simp only [escd, if_pos h]
theorem escd_n (d : UInt8) (r : List UInt8) (h : d.toNat = 110) : escd (d :: r) = some (10, 1) := by simp only [escd]; rw [if_neg (by omega), if_pos h]
theorem escd_t (d : UInt8) (r : List UInt8) (h : d.toNat = 116) : escd (d :: r) = some (9, 1) := by simp only [escd]; rw [if_neg (by omega), if_neg (by omega), if_pos h]
theorem escd_x (d a b : UInt8) (r : List UInt8) (h : d.toNat = 120) : escd (d :: a :: b :: r) = (hexv a).bind fun x => (hexv b).map fun y => (UInt8.ofNat (16 * x + y), 3) := by
  simp only [escd]; rw [if_neg (by omega), if_neg (by omega), if_neg (by omega), if_pos h]
  cases hexv a <;> cases hexv b <;> rfl
theorem escd_x1 (d a : UInt8) (h : d.toNat = 120) : escd [d, a] = none := by
  simp only [escd]; rw [if_neg (by omega), if_neg (by omega), if_neg (by omega), if_pos h]
theorem escd_x0 (d : UInt8) (h : d.toNat = 120) : escd [d] = none := by
  simp only [escd]; rw [if_neg (by omega), if_neg (by omega), if_neg (by omega), if_pos h]
theorem escd_no (d : UInt8) (r : List UInt8) (h : ¬(d.toNat = 34 ∨ d.toNat = 92 ∨ d.toNat = 110 ∨ d.toNat = 116 ∨ d.toNat = 120)) : escd (d :: r) = none := by
  simp only [escd]; rw [if_neg (by omega), if_neg (by omega), if_neg (by omega), if_neg (by omega)]
def part : List UInt8 → Option (UInt8 × Nat)
  | [] => none
  | c :: r => if c.toNat < 32 ∨ c.toNat = 34 then none else if c.toNat ≠ 92 then some (c, 1) else (escd r).map fun x => (x.1, x.2 + 1)
theorem part_cons (c : UInt8) (r : List UInt8) : part (c :: r) = if c.toNat < 32 ∨ c.toNat = 34 then none else if c.toNat ≠ 92 then some (c, 1) else (escd r).map fun x => (x.1, x.2 + 1) := rfl
theorem escd_le {l : List UInt8} {b : UInt8} {n : Nat} (h : escd l = some (b, n)) : 1 ≤ n ∧ n ≤ 3 ∧ n ≤ l.length := by
  unfold escd at h
  split at h
  · cases h
  · split at h
    · cases h; simp
    · split at h
      · cases h; simp
      · split at h
        · cases h; simp
        · split at h
          · split at h
            · split at h
              · cases h; simp
              · cases h
            · cases h
          · cases h
theorem part_le {l : List UInt8} {b : UInt8} {n : Nat} (h : part l = some (b, n)) : 1 ≤ n ∧ n ≤ 4 ∧ n ≤ l.length := by
  unfold part at h
  split at h
  · cases h
  · split at h
    · cases h
    · split at h
      · cases h; simp
      · cases he : escd _ with
        | none => rw [he] at h; cases h
        | some x => rw [he] at h; cases h; have := escd_le he; simp; omega
def quo (l : List UInt8) : Option (List UInt8 × Nat) :=
  match l with
  | [] => none
  | c :: r =>
    if c.toNat = 34 then some ([], 1) else
    match part (c :: r) with
    | none => none
    | some x => (quo ((c :: r).drop (max x.2 1))).map fun y => (x.1 :: y.1, x.2 + y.2)
termination_by l.length
decreasing_by simp; omega
def sla (l : List UInt8) : Option (List UInt8 × Nat) :=
  match l with
  | [] => none
  | c :: r =>
    if c.toNat = 47 then some ([], 1) else if c.toNat < 32 then none
    else if c.toNat = 92 then
      match r with
      | [] => none
      | d :: r => if d.toNat < 32 then none else if d.toNat = 47 then (sla r).map fun x => (d :: x.1, 2 + x.2) else (sla r).map fun x => (c :: d :: x.1, 2 + x.2)
    else (sla r).map fun x => (c :: x.1, 1 + x.2)
def spn (p : UInt8 → Bool) (l : List UInt8) : Nat := (l.takeWhile p).length
def isWrd (b : UInt8) : Bool := isDig b || (isLet b || decide (b.toNat = 45))
def one : List UInt8 → Except Int (Int × List UInt8 × Nat)
  | [] => .error 50
  | c :: r =>
    if isLet c then .ok (1, (c :: r).take (spn isWrd (c :: r)), spn isWrd (c :: r))
    else if isDig c then
      if 18 < spn isDig (c :: r) ∨ 1 < spn isDig (c :: r) ∧ c.toNat = 48 then .error 53 else .ok (2, (c :: r).take (spn isDig (c :: r)), spn isDig (c :: r))
    else if c.toNat = 34 then match quo r with
      | none => .error 51
      | some x => .ok (3, x.1, x.2 + 1)
    else if c.toNat = 47 then match sla r with
      | none => .error 52
      | some x => .ok (4, x.1, x.2 + 1)
    else if c.toNat = 123 ∨ c.toNat = 125 ∨ c.toNat = 44 ∨ c.toNat = 61 then .ok (5, [c], 1)
    else .error 50
def cmt : List UInt8 → Nat
  | [] => 0
  | c :: r => if c.toNat = 10 then 0 else cmt r + 1
def skp : List UInt8 → Nat
  | [] => 0
  | c :: r =>
    if c.toNat = 32 ∨ c.toNat = 9 ∨ c.toNat = 10 ∨ c.toNat = 13 then skp r + 1
    else if c.toNat = 35 then cmt (c :: r) + skp ((c :: r).drop (max (cmt (c :: r)) 1))
    else 0
termination_by l => l.length
decreasing_by
  · simp
  · simp; omega
theorem cmt_le (l : List UInt8) : cmt l ≤ l.length := by
  induction l with
  | nil => simp [cmt]
  | cons c r ih => simp only [cmt]; split <;> simp; omega
theorem cmt_yes (c : UInt8) (r : List UInt8) (h : c.toNat ≠ 10) : cmt (c :: r) = cmt r + 1 := by simp only [cmt, if_neg h]
theorem cmt_no (c : UInt8) (r : List UInt8) (h : c.toNat = 10) : cmt (c :: r) = 0 := by simp only [cmt, if_pos h]
theorem skp_nil : skp [] = 0 := by rw [skp]
theorem skp_blank (c : UInt8) (r : List UInt8) (h : c.toNat = 32 ∨ c.toNat = 9 ∨ c.toNat = 10 ∨ c.toNat = 13) : skp (c :: r) = skp r + 1 := by rw [skp, if_pos h]
theorem skp_cmt (c : UInt8) (r : List UInt8) (h : c.toNat = 35) : skp (c :: r) = cmt (c :: r) + skp ((c :: r).drop (cmt (c :: r))) := by
  rw [skp, if_neg (by omega), if_pos h, show max (cmt (c :: r)) 1 = cmt (c :: r) from by rw [cmt_yes _ _ (by omega)]; omega]
theorem skp_no (c : UInt8) (r : List UInt8) (h : ¬(c.toNat = 32 ∨ c.toNat = 9 ∨ c.toNat = 10 ∨ c.toNat = 13)) (h2 : c.toNat ≠ 35) : skp (c :: r) = 0 := by rw [skp, if_neg h, if_neg h2]
def plc (p : Nat × Nat) : List UInt8 → Nat × Nat
  | [] => p
  | c :: r => plc (if c.toNat = 10 then (p.1 + 1, 1) else (p.1, p.2 + 1)) r
structure Tok where
  kind : Int
  text : List UInt8
  line : Nat
  col : Nat
structure Flt where
  code : Int
  line : Nat
  col : Nat
def lexGo (p : Nat × Nat) (n : Nat) (l : List UInt8) : Except Flt (List Tok) :=
  match h : l.drop (skp l) with
  | [] => .ok [⟨6, [], (plc p l).1, (plc p l).2⟩]
  | c :: r =>
    match one (c :: r) with
    | .error e => .error ⟨e, (plc p (l.take (skp l))).1, (plc p (l.take (skp l))).2⟩
    | .ok x => if 2000 ≤ n then .error ⟨1, (plc p (l.take (skp l))).1, (plc p (l.take (skp l))).2⟩
      else (lexGo (plc p (l.take (skp l + x.2.2))) (n + 1) ((c :: r).drop (max x.2.2 1))).map (⟨x.1, x.2.1, (plc p (l.take (skp l))).1, (plc p (l.take (skp l))).2⟩ :: ·)
termination_by l.length
decreasing_by
  have := congrArg List.length h
  simp at *; omega
def lex (l : List UInt8) : Except Flt (List Tok) := if 8192 < l.length then .error ⟨1, 0, 0⟩ else lexGo (1, 1) 0 l
end Go.Proofs.YtkhhlmonhapmaaaGreatDoor
/- bytes.Clone, slices.Grow of nil, slices.Concat of two: what they return, and that they write nothing that was there. -/
namespace Go.Proofs.YtkhhlmonhapmaaaGreatDoor
open Go.RowKit
set_option linter.unusedSimpArgs false
set_option linter.unusedVariables false
theorem elB : ElemAt Tryz.prog 59 5 (.int .u8 0) 1 1 := ⟨Tryz.underlying59, by kernel_rfl, rfl, by decide⟩

end Go.Proofs.YtkhhlmonhapmaaaGreatDoor
