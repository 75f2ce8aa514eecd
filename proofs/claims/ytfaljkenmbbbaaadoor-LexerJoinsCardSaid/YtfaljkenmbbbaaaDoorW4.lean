import Derived.Test.YtfaljkenmbbbaaaDoorW3
import Derived.Lib.SliceRun
/- A walk over symbolic memory: 'clear'. No program in sight. -/
namespace Go.Proofs.YtfaljkenmbbbaaaDoor
open Go.RowKit
set_option linter.unusedSimpArgs false
set_option linter.unusedVariables false
section
variable {P : Program} {V O : Nat → Prop} {w0 w w' : World} {H H' D : List Hp} {T T' : List AV} {a : Act} {o : Oper} {K : List AV → List Hp → Prop} {ρ : Operand → AV} {ops : Array Oper} {Q : Post} {F : Nat → Prop}
/-- New cells in a row of the call's own. -/
theorem Rel.rowset (P : Program) (r : Rel V O w0 H T a w) (i : Nat) (b off n cap : Nat) (e : TypeId) (size : Nat) (cells new : List AV) (us : List Value) (hi : H[i]? = some (.row (some ⟨b, 0, none⟩) n cap e size cells)) (hy : DenL (FB V H) w new us) (h1 : ∀ u ∈ us, u.oneCell' = true) (hn : off + new.length ≤ cells.length) :
    ∃ w', (storeCells ⟨b, off, none⟩ us).run P w = .ok () w' ∧ Rel V O w0 (H.set i (.row (some ⟨b, 0, none⟩) n cap e size (spl cells off new))) T a w' := by
  obtain ⟨vals, hd, hown, hones⟩ := r.hp i _ hi
  have hlen : us.length = new.length := hy.len.symm ▸ rfl
  have hvl := hd.len
  obtain ⟨hvn, hcase⟩ := hown
  rcases hcase with ⟨e0, _⟩ | ⟨g, cap', cur, e0, hbg, hg, hnc, hcm, hcs, htake⟩
  · cases e0
  simp only [Value.slice.injEq, Option.some.injEq, Addr.mk.injEq] at e0
  obtain ⟨⟨rfl, -, -⟩, -, rfl⟩ := e0
  have hcurlen : vals.length ≤ cur.size := by rw [hcs, hvn]; exact Nat.mul_le_mul_right _ hnc
  have hst := run_storeCells_at P b off e us 0 cur w hg (by simp; omega) h1
  simp only [Nat.add_zero] at hst
  have hset := setRow_heap w b cur (cur.toList.take off ++ us ++ cur.toList.drop (off + us.length)).toArray e (0, 0) hg
  have hF : ∀ k, FB V (H.set i (.row (some ⟨b, 0, none⟩) n cap e size (spl cells off new))) k → FB V H k := by
    intro k hk
    rcases hk with hk | ⟨z, hz, e⟩
    · exact .inl hk
    · rcases List.mem_or_eq_of_mem_set hz with hz | rfl
      · exact .inr ⟨z, hz, e⟩
      · exact .inr ⟨_, List.mem_of_getElem? hi, e⟩
  have hother : ∀ k, k ≠ b → (w.setRow b (cur.toList.take off ++ us ++ cur.toList.drop (off + us.length)).toArray).heap[k]? = w.heap[k]? := fun k hk => setRow_other w b k _ hk
  have hsz : (w.setRow b (cur.toList.take off ++ us ++ cur.toList.drop (off + us.length)).toArray).heap.size = w.heap.size := by simp [World.setRow]
  have hbl : b < w.heap.size := (Array.getElem?_eq_some_iff.1 hg).1
  refine ⟨_, hst, Rel.turnAt (w' := w.setRow b (cur.toList.take off ++ us ++ cur.toList.drop (off + us.length)).toArray) (y := .row (some ⟨b, 0, none⟩) n cap e size (spl cells off new)) r i hi rfl rfl rfl (by omega) (fun k _ hk => hother k (fun e => hk (by rw [e]; rfl))) (fun k hk => ⟨by simp [Hp.blk] at hk; omega, .inl hk⟩) ?_⟩
  have hw : ∀ k, k < w.heap.size → ¬ FB V H k → (w.setRow b (cur.toList.take off ++ us ++ cur.toList.drop (off + us.length)).toArray).heap[k]? = w.heap[k]? := fun k _ hn => hother k fun e => hn (.inr ⟨_, List.mem_of_getElem? hi, by rw [e]; rfl⟩)
  refine ⟨vals.take off ++ us ++ vals.drop (off + us.length), DenL.conv (fun k hk => .inl (hF k hk)) hw _ _ (hd.spl hy off), ⟨?_, .inr ⟨b, cap, _, rfl, Nat.zero_le _, hset, hnc, hcm, ?_, ?_⟩⟩, fun u hu => ?_⟩
  · simp; omega
  · simp; omega
  · have hvt : vals = cur.toList.take vals.length := by rw [hvn]; exact htake.symm
    have hcl : cur.toList.length = cur.size := Array.length_toList
    rw [← hvn]
    apply List.ext_getElem?
    intro j
  
    have hvj : ∀ j, j < vals.length → vals[j]? = cur.toList[j]? := fun j hj => by
      conv => lhs; rw [hvt]
      rw [List.getElem?_take, if_pos hj]
    rw [List.getElem?_take]
    split
    · rename_i hj
      rw [splice_get _ _ _ _ (by omega), splice_get _ _ _ _ (by omega)]
      split
      · exact (hvj j hj).symm
      · split
        · rfl
        · exact (hvj j hj).symm
    · rename_i hj
      rw [List.getElem?_eq_none]
      simp; omega
  · simp only [List.mem_append] at hu
    rcases hu with (hu | hu) | hu
    · exact hones u (List.mem_of_mem_take hu)
    · exact h1 u hu
    · exact hones u (List.mem_of_mem_drop hu)
/-- 'clear(s)', s a part of a row of the call's own. -/
theorem Stp_clear (i : Nat) (x : Operand) (t e : TypeId) (z : Value) (bytes b off m mc n cap : Nat) (cells : List AV) (ho : o.op = .call { callee := .builtin .clear, args := #[x], argTypes := #[t] }) (hx : ev T x = .x (.slice (some ⟨b, off, none⟩) m mc)) (hi : H[i]? = some (.row (some ⟨b, 0, none⟩) n cap e 1 cells))
    (hE : ElemAt P t e z 1 bytes) (hz : z.cells = #[z]) (hz1 : z.oneCell' = true) (hn : off + m ≤ cells.length)
    (hK : K (putT T o.dst .top) (H.set i (.row (some ⟨b, 0, none⟩) n cap e 1 (spl cells off (List.replicate m (.x z)))))) : Stp P o T H K := by
  intro V O w0 a w Kc Q r hKc
  obtain ⟨w', hst, hr⟩ := Rel.rowset P r i b off n cap e 1 cells (List.replicate m (.x z)) (List.replicate m z) hi (by rw [← List.map_replicate]; exact DenL.exact) (fun u hu => by rw [List.eq_of_mem_replicate hu]; exact hz1) (by simpa using hn)
  have hzc : (Builtin.zeroCells z.cells m).toList = List.replicate m z := by
    rw [hz]
    simp [Builtin.zeroCells]
    apply List.ext_getElem
    · simp
    · intro i h1 h2
      simp [Nat.mod_one]
  obtain ⟨it, hit, hz0, hsize, hby⟩ := info_parts hE.info
  have hrun : (Builtin.clear_ #[t] o.type #[.slice (some ⟨b, off, none⟩) m mc]).run P w = .ok (.tuple #[]) w' := by
    cases m with
    | zero =>
      simp only [List.replicate_zero, storeCells] at hst
      simp at hst
      simp [Builtin.clear_, run_underlying hE.under, hst]
    | succ m => simp [Builtin.clear_, run_underlying hE.under, zeroValue, typeInfo, hit, hz0, hzc, hst]
  unfold Oper.wp execOp
  simp only [ho, resolve, invoke, builtin, Sem.run_bind, Sem.run_pure, Result.andThen_ok, List.map_toArray, List.map_cons, List.map_nil, r.evx hx, hrun, Oper.upon]
  exact hKc _ _ _ _ hK (Rel.put hr _ (by rw [Den]; trivial))
/-- What is known of a row of the call's own. -/
theorem row_known (r : Rel V O w0 H T a w) (i : Nat) {ad : Option Addr} {n cap : Nat} {e : TypeId} {size : Nat} {cells : List AV} (hi : H[i]? = some (.row ad n cap e size cells)) :
    n ≤ cap ∧ cells.length = n * size ∧ ((ad = none ∧ n = 0 ∧ cap = 0) ∨ ∃ b, ad = some ⟨b, 0, none⟩) := by
  obtain ⟨vals, hd, hown, hones⟩ := r.hp i _ hi
  have hvl := hd.len
  obtain ⟨hvn, hcase⟩ := hown
  rcases hcase with ⟨e0, hv⟩ | ⟨g, cap', cur, e0, hbg, hg, hnc, hcm, hcs, htake⟩
  · simp only [Value.slice.injEq] at e0
    obtain ⟨rfl, rfl, rfl⟩ := e0
    exact ⟨Nat.le_refl _, by omega, .inl ⟨rfl, rfl, rfl⟩⟩
  · simp only [Value.slice.injEq] at e0
    obtain ⟨rfl, -, rfl⟩ := e0
    exact ⟨hnc, by omega, .inr ⟨g, rfl⟩⟩
theorem awp_row {c : Code} (i : Nat) {ad : Option Addr} {n cap : Nat} {e : TypeId} {size : Nat} {cells : List AV} (hi : H[i]? = some (.row ad n cap e size cells))
    (h : n ≤ cap → cells.length = n * size → ((ad = none ∧ n = 0 ∧ cap = 0) ∨ ∃ b, ad = some ⟨b, 0, none⟩) → awp P c Q T H) : awp P c Q T H := fun V O w0 a w r =>
  h (row_known r i hi).1 (row_known r i hi).2.1 (row_known r i hi).2.2 V O w0 a w r
theorem awpL_row {rest : List Oper} (i : Nat) {ad : Option Addr} {n cap : Nat} {e : TypeId} {size : Nat} {cells : List AV} (hi : H[i]? = some (.row ad n cap e size cells))
    (h : n ≤ cap → cells.length = n * size → ((ad = none ∧ n = 0 ∧ cap = 0) ∨ ∃ b, ad = some ⟨b, 0, none⟩) → awpL P ops Q rest T H) : awpL P ops Q rest T H := fun V O w0 a w r =>
  h (row_known r i hi).1 (row_known r i hi).2.1 (row_known r i hi).2.2 V O w0 a w r
theorem ifcap {cap l : Nat} {x y : Addr} (h : ¬ cap = l) : (if cap = l then some x else some y) = some y := if_neg h
/-- All is known whole. -/
def Hp.flat : Hp → Bool
  | .box _ cells => cells.all AV.ex
  | .row _ _ _ _ _ cells => cells.all AV.ex
theorem DenL.hard {F' : Nat → Prop} {l : List AV} {vs : List Value} (hl : l.all AV.ex = true) (h : DenL F w l vs) : DenL F' w' l vs := by
  rw [ex_val hl] at h ⊢
  rw [h.exact']
  exact DenL.exact
theorem HpOk.hard {F' : Nat → Prop} {h : Hp} (hh : h.flat = true) (ho : HpOk F w h) : HpOk F' w h := by
  cases h with
  | box b cells => obtain ⟨vals, hd, rest⟩ := ho; exact ⟨vals, hd.hard hh, rest⟩
  | row ad n cap e size cells => obtain ⟨vals, hd, rest⟩ := ho; exact ⟨vals, hd.hard hh, rest⟩
/-- Rows lent to a function that gives back what is known whole. -/
theorem Spec.lend {f : FuncId} {args args' : List AV} {Q : AV → List Hp → Prop} (D : List Hp) (h : Spec P f H args' Q) (hv : VwL D args args') (hq : ∀ r H', Q r H' → (∃ v, r = .x v) ∧ ∀ x ∈ H', x.flat = true) : Spec P f (H ++ D) args fun r H' => ∃ H1, Q r H1 ∧ H' = H1 ++ D := by
  intro V w vs hV hH hd hgl
  have hap := List.pairwise_append.1 hH.apart
  have hsub : ∀ k, FB V H k → FB V (H ++ D) k := fun k hk => by
    rcases hk with hk | ⟨x, hx, e⟩
    · exact .inl hk
    · exact .inr ⟨x, by simp [hx], e⟩
  have hDout : ∀ x ∈ D, ∀ k, x.blk = some k → ¬ FB V H k := fun x hx k e hk => by
    rcases hk with hk | ⟨y, hy, e'⟩
    · exact (hH.lt x (by simp [hx]) k e).2 hk
    · exact hap.2.2 y hy x hx k e' e
  have hd' : DenL (FB V H) w args' vs := hv.den hsub (fun x hx => ⟨hH.ok x (by simp [hx]), hDout x hx⟩) _ hd
  refine (h V w vs hV ⟨fun x hx => (hH.ok x (by simp [hx])).weak hsub, hap.1, fun x hx k hk => hH.lt x (by simp [hx]) k hk⟩ hd' (hgl.mono fun k ⟨x, hx, e⟩ => ⟨x, by simp [hx], e⟩)).mono ?_
  rintro e w' ⟨r, H1, v, hqr, rfl, hdv, hok, hfr, hown⟩
  obtain ⟨⟨u, rfl⟩, hflat⟩ := hq r H1 hqr
  have hF : ∀ k, FB V (H1 ++ D) k → FB V (H ++ D) k ∨ w.heap.size ≤ k := fun k hk => by
    rcases hk with hk | ⟨x, hx, e⟩
    · exact .inl (.inl hk)
    · rcases List.mem_append.1 hx with hx | hx
      · rcases hown x hx k e with ⟨y, hy, e'⟩ | h
        · exact .inl (.inr ⟨y, by simp [hy], e'⟩)
        · exact .inr h
      · exact .inl (.inr ⟨x, by simp [hx], e⟩)
  have hw : ∀ k, k < w.heap.size → ¬ FB V (H ++ D) k → w'.heap[k]? = w.heap[k]? := fun k hk hn => hfr.block k hk fun ⟨y, hy, e⟩ => hn (.inr ⟨y, by simp [hy], e⟩)
  refine ⟨_, _, v, ⟨H1, hqr, rfl⟩, rfl, by simp only [Den] at hdv ⊢; exact hdv, ⟨fun x hx => ?_, List.pairwise_append.2 ⟨hok.apart, hap.2.1, fun x hx y hy k hk e => ?_⟩, fun x hx k hk => ?_⟩, ⟨hfr.os, hfr.tape, hfr.output, hfr.size, fun k hk hn => hfr.block k hk fun ⟨y, hy, e⟩ => hn ⟨y, by simp [hy], e⟩⟩, fun x hx k hk => ?_⟩
  · rcases List.mem_append.1 hx with hx | hx
    · exact (hok.ok x hx).hard (hflat x hx)
    · exact (hH.ok x (by simp [hx])).conv hF hw hfr.size fun k hk => hfr.block k (hH.lt x (by simp [hx]) k hk).1 fun ⟨y, hy, e⟩ => hDout x hx k hk (.inr ⟨y, hy, e⟩)
  · rcases hown x hx k hk with ⟨z, hz, e'⟩ | h
    · exact hDout y hy k e (.inr ⟨z, hz, e'⟩)
    · have := (hH.lt y (by simp [hy]) k e).1; omega
  · rcases List.mem_append.1 hx with hx | hx
    · exact hok.lt x hx k hk
    · exact ⟨Nat.lt_of_lt_of_le (hH.lt x (by simp [hx]) k hk).1 hfr.size, (hH.lt x (by simp [hx]) k hk).2⟩
  · rcases List.mem_append.1 hx with hx | hx
    · rcases hown x hx k hk with ⟨y, hy, e⟩ | h
      · exact .inl ⟨y, by simp [hy], e⟩
      · exact .inr h
    · exact .inl ⟨x, by simp [hx], hk⟩
/-- A call that is lent all rows of the call's own, and gives what is known whole. -/
theorem Evl_callL {c : Operand} {args : Array Operand} {tys : Array TypeId} {fs cs : Array Value} (f : FuncId) (fn : Func) (avs : List AV) (res : Value) (ho : o.op = .call { callee := .value c, args := args, argTypes := tys }) (hc : ρ c = .x (.func (.func f) fs cs))
    (hf : P.funcs[f]? = some fn) (hn : fn.name ≠ "runtime.NumGoroutine") (hb : fn.body.isSome = true) (hargs : VwL H (fs.toList.map .x ++ args.toList.map ρ ++ cs.toList.map .x) avs) (hS : Spec P f [] avs fun r H' => r = .x res ∧ H' = []) : Evl P o ρ H (.x res) := by
  intro V a w Kc Qc r hKc
  have hmem : ∀ x ∈ args.toList, x ∈ o.op.operands := fun x hx => by simp [ho, Op.operands, Call.operands]; exact .inr (by simpa using hx)
  have hFF : ∀ k, FB V [] k → V k := fun k hk => by
    rcases hk with hk | ⟨x, hx, _⟩
    · exact hk
    · cases hx
  have hd : DenL (FB V []) w avs (fs.toList ++ args.toList.map a.eval ++ cs.toList) := hargs.den (fun k hk => .inl (hFF k hk)) (fun h hh => ⟨r.hok.ok h hh, fun k e hk => (r.hok.lt h hh k e).2 (hFF k hk)⟩) _ ((DenL.exact.app (denL_ops r _ hmem)).app DenL.exact)
  refine wp_call_of ho (r.evx (by simp [ho, Op.operands, Call.operands]) hc) hf hn hb (vs := (fs.toList ++ args.toList.map a.eval ++ cs.toList).toArray) (by apply Array.toList_inj.1; simp) ?_
  refine (hS V w _ r.vlt ⟨fun x hx => (by cases hx), .nil, fun x hx => (by cases hx)⟩ hd ⟨fun k _ ⟨x, hx, _⟩ => (by cases hx), r.gw⟩).mono ?_
  rintro e w' ⟨res', H', v, ⟨rfl, rfl⟩, rfl, hdv, _, hfr, _⟩
  have hE : Ext w w' := ⟨hfr.os, hfr.tape, hfr.output, hfr.size, fun k hk => hfr.block k hk fun ⟨y, hy, _⟩ => by cases hy⟩
  exact ⟨v, rfl, hKc v w' hE (by simp only [Den] at hdv ⊢; exact hdv)⟩
theorem DenL.strip {l : List AV} {vs : List Value} (h : DenL F w l vs) : DenL F w (l.map str) vs := by
  refine DenL.of (by simp [h.len]) fun j av u h1 h2 => ?_
  rw [List.getElem?_map] at h1
  cases hj : l[j]? with
  | none => rw [hj] at h1; cases h1
  | some x =>
    rw [hj] at h1; cases h1
    exact (h.get' j x u hj h2).str
theorem Rel.strip (r : Rel V O w0 H T a w) : Rel V O w0 H (T.map str) a w := { r with tmps := r.tmps.strip }
/-- A guarded operation that may turn memory: both ways. -/
theorem awpL_gs {rest : List Oper} {j : Nat} {want : Bool} {t : Nat} (p : Bool) (hg : o.guard = some (j, want)) (hd : (ops[j]?).bind (·.dst) = some t) (hp : gdc want (T.getD t .top) = some p)
    (h1 : p = true → Stp P o (T.map str) H (awpL P ops Q rest)) (h0 : p = false → awpL P ops Q rest (putT T o.dst (.x undef)) H) : awpL P ops Q (o :: rest) T H := fun V O w0 a w r =>
  wpList_step fun K hKc => by
    rw [wanted_of r hg hd hp]
    cases hpb : p with
    | true =>
      simp only [if_true]
      exact h1 hpb V O w0 a w K _ r.strip fun T' H' a' w' hk hr => hKc _ _ (hk V O w0 a' w' hr)
    | false =>
      simp only [Bool.false_eq_true, if_false]
      exact hKc _ _ (h0 hpb V O w0 _ _ (r.put _ (by rw [Den])))
/-- A scope with one label: what lies behind the label, once. -/
theorem awp_scopeK {S : Type} {c rest : Code} (l : Nat) (Tf : S → List AV) (Hf : S → List Hp) (Inv : S → Prop) (m : S → Nat) (hf : findLabel c l = some (.seq .skip rest))
    (pass : ∀ s, Inv s → awp P rest (jumpA l (fun T' H' => ∃ s', m s' < m s ∧ Inv s' ∧ Weak H' T' (Hf s') (Tf s')) Q) (Tf s) (Hf s))
    (first : (∀ s, Inv s → awp P rest (jumpA l (fun T' H' => ∃ s', Inv s' ∧ Weak H' T' (Hf s') (Tf s')) Q) (Tf s) (Hf s)) → awp P c (jumpA l (fun T' H' => ∃ s', Inv s' ∧ Weak H' T' (Hf s') (Tf s')) Q) T H) : awp P (.scope c) Q T H :=
  awp_scopeS l Tf Hf Inv m hf (first fun s hs => awp_mono (pass s hs) fun e T H q => by
    cases e <;> simp only [jumpA] at q ⊢ <;> first
      | exact q
      | (obtain ⟨e, s', -, h1, h2⟩ := q; exact ⟨e, s', h1, h2⟩)) fun s hs => awp_seq (awp_skip (thenA_normal (pass s hs)))
end
end Go.Proofs.YtfaljkenmbbbaaaDoor
/- A walk over symbolic memory: tests against nil, appends to a part of a row. No program in sight. -/
namespace Go.Proofs.YtfaljkenmbbbaaaDoor
open Go.RowKit
set_option linter.unusedSimpArgs false
set_option linter.unusedVariables false
section
variable {P : Program} {V O : Nat → Prop} {w0 w w' : World} {H H' D : List Hp} {T T' : List AV} {a : Act} {o : Oper} {K : List AV → List Hp → Prop} {ρ : Operand → AV} {ops : Array Oper} {Q : Post} {F : Nat → Prop}
/-- A slice with elements is not nil. -/
theorem Evl_eqnil_sq (x : Operand) (t t2 e : TypeId) (size n : Nat) (cells : List AV) (ht : elT P t = some (e, size)) (ho : o.op = .binOp .eql t x (.const (.slice none 0 0)) t2) (hx : ρ x = .sq n cells) (hn : 0 < n) : Evl P o ρ H (.x (.bool false)) := by
  intro V a w Kc Q r hKc
  have hd := r.ops x (by simp [ho, Op.operands])
  rw [hx, Den] at hd
  obtain ⟨ad, cap, vals, hv, h2, h3, h4, h5⟩ := hd
  cases ad with
  | none => have := h4 rfl; omega
  | some ad =>
    unfold Oper.wp
    have hrun : (execOp a.eval o).run P w = .ok (.value (.bool false)) w := by
      simp only [execOp, ho]
      rw [hv]
      have key : ∀ d, (Op.equalIn (d + 1) t (.slice (some ad) n cap) (.slice none 0 0)).run P w = .ok false w := by
        intro d
        rw [Op.equalIn]
        simp [run_underlying (under_of_elT ht)]
      simp [Act.eval, eqGuard, binOp, Op.equal, go_sem]
      rw [show Op.maxDepth = (Op.maxDepth - 1) + 1 from rfl, key]
      rfl
    rw [hrun]
    exact hKc _ _ (Below.refl _ _) (by rw [Den])
/-- 'append(s, x...)', s behind the head of a block of the call's own, and there is room. -/
theorem run_append_room_at (w : World) (t ty e : TypeId) (i : TypeInfo) (ht : P.underlying t = some (.slice e)) (hi : P.info? e = some i)
    (g off sLen sCap : Nat) (cur : Array Value) (hg : w.heap[g]? = some (.cells cur e (0, 0)))
    (a : Addr) (m c : Nat) (news : List Value) (hl : news.length = m * i.size) (hnews : ∀ j u, news[j]? = some u → w.cell? (a.add j) = some u) (h1 : ∀ u ∈ news, u.oneCell' = true)
    (hroom : sLen + m ≤ sCap) (hfit : off + sLen * i.size + news.length ≤ cur.size) :
    (Builtin.append_ #[t, t] ty #[.slice (some ⟨g, off, none⟩) sLen sCap, .slice (some a) m c]).run P w =
      .ok (.slice (some ⟨g, off, none⟩) (sLen + m) sCap) (w.setRow g (cur.toList.take (off + sLen * i.size) ++ news ++ cur.toList.drop (off + sLen * i.size + news.length)).toArray) := by
  have hf := run_firstCells_some (P := P) w i.size m a m c news hl hnews
  have hst := run_storeCells_at P g (off + sLen * i.size) e news 0 cur w hg (by simpa using hfit) h1
  simp only [Nat.add_zero] at hst
  simp [Builtin.append_, run_underlying ht, sizeOf, typeInfo, hi, Builtin.lenOf, hroom, hf, add_none, hst]
theorem Stp_append_off (p : Nat) (s x : Operand) (t e : TypeId) (z : Value) (size bytes b off n c N cap m : Nat) (cells news : List AV) (ho : o.op = .call { callee := .builtin .append, args := #[s, x], argTypes := #[t, t] }) (hs : ev T s = .x (.slice (some ⟨b, off, none⟩) n c)) (hp : H[p]? = some (.row (some ⟨b, 0, none⟩) N cap e size cells))
    (hN : n ≤ N) (hc : (off = (N - n) * size ∧ N - n + c = cap) ∨ (n = 0 ∧ c = 0)) (hm : 0 < m)
    (hx : Src (ev T) H x m news) (hE : ElemAt P t e z size bytes) (hl : news.length = m * size) (hf : Fits (n + m) bytes)
    (hK1 : n + m ≤ c → N - n + c = cap → off = (N - n) * size → K (putT T o.dst (.x (.slice (some ⟨b, off, none⟩) (n + m) c))) (H.set p (.row (some ⟨b, 0, none⟩) (N + m) cap e size (cells ++ news))))
    (hK2 : ∀ b' cap', K (putT T o.dst (.x (.slice (some ⟨b', 0, none⟩) (n + m) cap'))) (H.set p (.row (some ⟨b', 0, none⟩) (n + m) cap' e size (cells.drop ((N - n) * size) ++ news)))) : Stp P o T H K := by
  intro V O w0 a w Kc Q r hKc
  obtain ⟨vals, hd, hown, h1⟩ := r.hp p _ hp
  obtain ⟨ad2, cap2, vals2, hv2, hn2, hc2, h02, hd2, h12, hm2⟩ := (r.oks o).src (by simp [ho, Op.operands, Call.operands]) hx
  obtain ⟨i, hi, hz, hsize, hby⟩ := info_parts hE.info
  obtain ⟨hlen, hn | ⟨g, capx, cur, e1, hbg, hg, hnc, hcm, hcs, htake⟩⟩ := hown
  · cases hn.1
  simp only [Value.slice.injEq, Option.some.injEq, Addr.mk.injEq] at e1
  obtain ⟨⟨rfl, -, -⟩, -, rfl⟩ := e1
  have hl2 : vals2.length = m * size := by rw [hd2.len, hl]
  cases ad2 with
  | none => have := h02 rfl; omega
  | some a2 =>
  have hnews : ∀ j u, vals2[j]? = some u → w.cell? (a2.add j) = some u := fun j u hj => by
    rcases hm2 with rfl | ⟨b3, o3, e3, hcc⟩
    · simp at hj
    · cases e3; rw [add_none]; exact hcc j u hj
  have hmm : n + m ≤ maxLen := hf.2
  have hbig : n + m ≤ 9223372036854775807 := by simp only [maxLen] at hmm; omega
  unfold Oper.wp execOp
  simp only [ho, resolve, invoke, builtin, Sem.run_bind, Sem.run_pure, Result.andThen_ok, List.map_toArray, List.map_cons, List.map_nil, r.evx hs, hv2]
  by_cases hroom : n + m ≤ c
  · rcases hc with ⟨ho1, hc1⟩ | ⟨h0, h00⟩
    · have hoff : off + n * size = N * size := by rw [ho1, ← Nat.add_mul]; congr 1; omega
      have hfit : off + n * i.size + vals2.length ≤ cur.size := by
        rw [hsize, hoff, hl2, hcs, ← Nat.add_mul]; exact Nat.mul_le_mul_right _ (by omega)
      have hr := run_append_room_at (P := P) w t o.type e i hE.under hi b off n c cur hg a2 m cap2 vals2 (by rw [hl2, hsize]) hnews h12 hroom hfit
      rw [hr]
      simp only [Oper.upon]
      have hlenv : (vals ++ vals2).length = (N + m) * size := by rw [List.length_append, hlen, hl2, Nat.add_mul]
      refine hKc _ _ _ _ (hK1 hroom hc1 ho1) (Rel.put (Rel.turnAt (w' := w.setRow b (cur.toList.take (off + n * i.size) ++ vals2 ++ cur.toList.drop (off + n * i.size + vals2.length)).toArray) (y := .row (some ⟨b, 0, none⟩) (N + m) cap e size (cells ++ news)) r p hp rfl rfl rfl (by simp) (fun k hk hn => setRow_other w b k _ (fun e => hn (by rw [e]; rfl))) (fun k hk => ⟨by simp [Hp.blk] at hk; subst hk; simpa using (Array.getElem?_eq_some_iff.1 hg).1, .inl hk⟩) ?_) _ (by rw [Den]))
      have hF : ∀ k, FB V (H.set p (.row (some ⟨b, 0, none⟩) (N + m) cap e size (cells ++ news))) k → FB V H k ∨ w.heap.size ≤ k := by
        intro k hk
        rcases hk with hk | ⟨y, hy, e⟩
        · exact .inl (.inl hk)
        · rcases List.mem_or_eq_of_mem_set hy with hy | rfl
          · exact .inl (.inr ⟨y, hy, e⟩)
          · exact .inl (.inr ⟨_, List.mem_of_getElem? hp, e⟩)
      have hw' : ∀ k, k < w.heap.size → ¬ FB V H k → (w.setRow b (cur.toList.take (off + n * i.size) ++ vals2 ++ cur.toList.drop (off + n * i.size + vals2.length)).toArray).heap[k]? = w.heap[k]? := fun k hk hn => setRow_other w b k _ (fun e => hn (.inr ⟨_, List.mem_of_getElem? hp, by rw [e]; rfl⟩))
      refine ⟨vals ++ vals2, (DenL.conv hF hw' _ _ hd).app (DenL.conv hF hw' _ _ hd2), ⟨hlenv, .inr ⟨b, cap, _, rfl, hbg, setRow_heap w b cur _ e _ hg, by omega, hcm, ?_, ?_⟩⟩, fun u hu => by
        rcases List.mem_append.1 hu with h | h
        · exact h1 u h
        · exact h12 u h⟩
      · simp only [List.size_toArray, List.length_append, List.length_take, List.length_drop, Array.length_toList]
        omega
      · rw [hsize, hoff, htake, ← hlenv]
        exact List.take_left
    · omega
  · have hdl : (vals.drop ((N - n) * size)).length = n * size := by rw [List.length_drop, hlen, ← Nat.sub_mul]; congr 1; omega
    have holds : ∀ j u, (vals.drop ((N - n) * size))[j]? = some u → w.cell? ((⟨b, off, none⟩ : Addr).add j) = some u := by
      intro j u hj
      rcases hc with ⟨ho1, hc1⟩ | ⟨h0, h00⟩
      · rw [List.getElem?_drop] at hj
        rw [add_none, ho1, cell_of_row w b _ cur e (0, 0) hg]
        rw [← htake, List.getElem?_take] at hj
        split at hj
        · simpa using hj
        · cases hj
      · have : (vals.drop ((N - n) * size)) = [] := List.eq_nil_of_length_eq_zero (by rw [hdl, h0, Nat.zero_mul])
        rw [this] at hj; simp at hj
    have hr := run_append_grow (P := P) (w := w) t o.type e i z hE.under hi hz ⟨b, off, none⟩ n c (vals.drop ((N - n) * size)) (by rw [hdl, hsize]) holds a2 m cap2 vals2 (by rw [hl2, hsize]) hnews (by omega) (by omega) (growslice_fits (by omega) (by rw [hby]; exact hf.1))
    rw [hr]
    simp only [Oper.upon]
    have hge := grownCap_ge w (n + m) c e
    have hcm2 : grownCap w (n + m) c e ≤ maxLen := grownCap_le_maxLen w (n + m) c e hmm
    have hlenv : (vals.drop ((N - n) * size) ++ vals2).length = (n + m) * size := by rw [List.length_append, hdl, hl2, Nat.add_mul]
    refine hKc _ _ _ _ (hK2 w.heap.size (grownCap w (n + m) c e)) (Rel.put (Rel.turnAt (w' := w.drew.alloc (.cells ((vals.drop ((N - n) * size)).toArray ++ vals2.toArray ++ Builtin.zeroCells z.cells (grownCap w (n + m) c e - (n + m))) e)) (y := .row (some ⟨w.heap.size, 0, none⟩) (n + m) (grownCap w (n + m) c e) e size (cells.drop ((N - n) * size) ++ news)) r p hp rfl rfl rfl (by simp) (fun k hk hn => heap_alloc_old w.drew _ (by simpa using hk)) (fun k hk => ⟨by simp [Hp.blk] at hk; subst hk; simp, .inr (by simp [Hp.blk] at hk; omega)⟩) ?_) _ (by rw [Den]))
    have hF : ∀ k, FB V (H.set p (.row (some ⟨w.heap.size, 0, none⟩) (n + m) (grownCap w (n + m) c e) e size (cells.drop ((N - n) * size) ++ news))) k → FB V H k ∨ w.heap.size ≤ k := by
      intro k hk
      rcases hk with hk | ⟨y, hy, e⟩
      · exact .inl (.inl hk)
      · rcases List.mem_or_eq_of_mem_set hy with hy | rfl
        · exact .inl (.inr ⟨y, hy, e⟩)
        · simp [Hp.blk] at e; exact .inr (by omega)
    refine ⟨vals.drop ((N - n) * size) ++ vals2, (DenL.conv hF (fun k hk _ => heap_alloc_old w.drew _ (by simpa using hk)) _ _ (hd.drop _)).app (DenL.conv hF (fun k hk _ => heap_alloc_old w.drew _ (by simpa using hk)) _ _ hd2), ⟨hlenv, .inr ⟨w.heap.size, _, _, rfl, Nat.zero_le _, heap_alloc_new w.drew _, hge, hcm2, ?_, ?_⟩⟩, fun u hu => by
      rcases List.mem_append.1 hu with h | h
      · exact h1 u (List.mem_of_mem_drop h)
      · exact h12 u h⟩
    · simp only [Array.size_append, List.size_toArray, size_zeroCells, hE.zs, hdl, hl2, ← Nat.add_mul]
      congr 1
      omega
    · simp only [Array.toList_append, List.append_assoc]
      rw [← List.append_assoc, ← hlenv]
      exact List.take_left
end
end Go.Proofs.YtfaljkenmbbbaaaDoor
/- A walk over symbolic memory: the walk's rules, in bundles; where a block stands. No program in sight. -/
namespace Go.Proofs.YtfaljkenmbbbaaaDoor
open Go.RowKit
set_option linter.unusedSimpArgs false
set_option linter.unusedVariables false
set_option linter.defProp false
/-! Where a block of the call's own stands. -/
class FBox (H : List Hp) (b : Nat) (p : outParam Nat) (cells : outParam (List AV)) : Prop where out : H[p]? = some (.box b cells)
instance {x : Hp} {H : List Hp} {b p : Nat} {cells : List AV} [h : FBox H b p cells] : FBox (x :: H) b (p + 1) cells := ⟨by simpa using h.out⟩
instance {H : List Hp} {b : Nat} {cells : List AV} : FBox (.box b cells :: H) b 0 cells := ⟨rfl⟩
class FRow (H : List Hp) (ad : Option Addr) (p n cap : outParam Nat) (e : outParam TypeId) (size : outParam Nat) (cells : outParam (List AV)) : Prop where out : H[p]? = some (.row ad n cap e size cells)
instance {x : Hp} {H : List Hp} {ad : Option Addr} {p n cap : Nat} {e : TypeId} {size : Nat} {cells : List AV} [h : FRow H ad p n cap e size cells] : FRow (x :: H) ad (p + 1) n cap e size cells := ⟨by simpa using h.out⟩
instance {H : List Hp} {ad : Option Addr} {n cap : Nat} {e : TypeId} {size : Nat} {cells : List AV} : FRow (.row ad n cap e size cells :: H) ad 0 n cap e size cells := ⟨rfl⟩
/-! The rules. -/
theorem ev_tmp (T : List AV) (t : Nat) : ev T (.tmp t) = T.getD t .top := rfl
theorem ev_const (T : List AV) (v : Value) : ev T (.const v) = .x v := rfl
theorem ev_global (T : List AV) (g : Nat) : ev T (.global g) = .x (.pointer (some ⟨g, 0, none⟩)) := rfl
theorem ev_func (T : List AV) (f : Nat) : ev T (.func f) = .x (.func (.func f) #[] #[]) := rfl
theorem evs_eq (T : List AV) (x : Operand) : evs T x = str (ev T x) := rfl
theorem str_g (v : AV) : str (.g true v) = v := rfl
theorem str_gf (v : AV) : str (.g false v) = .g false v := rfl
theorem str_x (v : Value) : str (.x v) = .x v := rfl
theorem str_top : str .top = .top := rfl
theorem str_sq (n : Nat) (l : List AV) : str (.sq n l) = .sq n l := rfl
theorem str_at (l : List AV) : str (.at_ l) = .at_ l := rfl
theorem str_agg (l : List AV) : str (.agg l) = .agg l := rfl
theorem str_tup (l : List AV) : str (.tup l) = .tup l := rfl
theorem str_ifc (t : TypeId) (v : AV) : str (.ifc t v) = .ifc t v := rfl
theorem putT_some (T : List AV) (d : Nat) (av : AV) : putT T (some d) av = T.set d av := rfl
theorem putT_none (T : List AV) (av : AV) : putT T none av = T := rfl
theorem val_x (v : Value) : AV.val (.x v) = v := rfl
theorem ldA_t (n : Nat) (l : List AV) : ldA true n l = mkA (l.take n) := rfl
theorem ldA_f (n : Nat) (l : List AV) : ldA false n l = l.getD 0 .top := rfl
theorem mkA_eq (l : List AV) : mkA l = if l.all AV.ex then .x (.agg (l.map AV.val).toArray) else .agg l := rfl
def wtb := And.intro ev_tmp (And.intro ev_const (And.intro ev_global (And.intro ev_func (And.intro evs_eq (And.intro str_g (And.intro str_gf (And.intro str_x (And.intro str_top (And.intro str_sq (And.intro str_at (And.intro str_agg (And.intro str_tup (And.intro str_ifc (And.intro putT_some (And.intro putT_none val_x)))))))))))))))
def wtc := And.intro cells_int (And.intro cells_bool (And.intro cells_string (And.intro cells_slice (And.intro cells_pointer (And.intro cells_nilIface (And.intro cells_iface (And.intro cells_func (And.intro cells_sq (And.intro cells_at (And.intro cells_ifc (And.intro cells_agg cells_aggx)))))))))))
def wtd := And.intro ldA_t (And.intro ldA_f (And.intro mkA_eq (And.intro ex_x (And.intro ex_sq (And.intro ex_at (And.intro ex_ifc (And.intro vc_int (And.intro vc_bool (And.intro vc_string (And.intro vc_slice (And.intro vc_agg (And.intro spl_succ spl_zero))))))))))))
def wte := And.intro (@Bool.and_false) (And.intro (@Bool.false_and) (And.intro (@Bool.and_true) (And.intro (@Bool.true_and) (And.intro Bool.false_eq_true (And.intro Bool.not_true (And.intro Bool.not_false Int.toNat_natCast))))))
def wtl := And.intro (@List.all_cons.{0}) (And.intro (@List.all_nil.{0}) (And.intro (@List.replicate_succ.{0}) (And.intro (@List.replicate_zero.{0}) (And.intro (@List.flatten_cons.{0}) (And.intro (@List.flatten_nil.{0}) (And.intro (@List.drop_nil.{0}) (And.intro (@List.set_cons_zero.{0}) (And.intro (@List.set_cons_succ.{0}) (And.intro (@List.getD_cons_zero.{0}) (And.intro (@List.getD_cons_succ.{0}) (And.intro (@List.nil_append.{0}) (And.intro (@List.cons_append.{0}) (And.intro (@List.append_nil.{0}) (And.intro (@List.drop_zero.{0}) (And.intro (@List.drop_succ_cons.{0}) (And.intro (@List.take_zero.{0}) (And.intro (@List.take_succ_cons.{0}) (And.intro (@List.map_cons.{0, 0}) (And.intro (@List.map_nil.{0, 0}) (And.intro (@List.length_cons.{0}) (And.intro (@List.length_nil.{0}) (And.intro Nat.zero_add (And.intro Nat.mul_one Nat.add_zero)))))))))))))))))))))))
def wtn := And.intro wtb (And.intro wtc (And.intro wtd (And.intro wte wtl)))
def won := And.intro one_x (And.intro one_sq (And.intro one_at one_ifc))
def wlq := And.intro wtb wtc
def whn := And.intro (@decide_eq_true_eq) (And.intro (@decide_eq_false_iff_not) (And.intro (@beq_iff_eq.{0}) (And.intro (@beq_eq_false_iff_ne.{0}) (And.intro (@bne_iff_ne.{0}) (And.intro (@bne_eq_false_iff_eq.{0}) (And.intro (@Bool.not_eq_true) (And.intro (@Bool.not_eq_false) (And.intro (@Bool.not_eq_true') (And.intro (@Bool.not_eq_false') (And.intro Bool.not_true (And.intro Bool.not_false (And.intro (@Bool.and_eq_true) (And.intro (@Bool.or_eq_true) (And.intro (@Bool.and_eq_false_iff) (And.intro (@Bool.or_eq_false_iff) (@ne_eq.{1}))))))))))))))))
end Go.Proofs.YtfaljkenmbbbaaaDoor
