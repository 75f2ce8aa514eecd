/- A walk over symbolic memory: 'clear'. No program in sight. -/
import Derived.Test.YtjgafhnppplmoaaSl10
import Derived.Lib.SliceRun
namespace Go.Proofs.Ytjgafhnppplmoaa
open Go.RowKit
set_option linter.unusedSimpArgs false
set_option linter.unusedVariables false
section
variable {P : Program} {V O : Nat → Prop} {w0 w w' : World} {H H' D : List Hp} {T T' : List AV} {a : Act} {o : Oper} {K : List AV → List Hp → Prop} {ρ : Operand → AV} {ops : Array Oper} {Q : Post} {F : Nat → Prop}
/-- New cells in a row of the call's own. -/
theorem Rel.rowset (P : Program) (r : Rel V O w0 H T a w) (i : Nat) (b off n cap : Nat) (e : TypeId) (size : Nat) (cells new : List AV) (us : List Value) (hi : H[i]? = some (.row (some ⟨b, 0, none⟩) n cap e size cells)) (hy : DenL (FB V H) w new us) (h1 : ∀ u ∈ us, u.oneCell' = true) (hn : off + new.length ≤ cells.length) :
    ∃ w', (storeCells ⟨b, off, none⟩ us).run P w = .ok () w' ∧ Rel V O w0 (H.set i (.row (some ⟨b, 0, none⟩) n cap e size (spl cells off new))) T a w' := by
  obtain ⟨vals, hd, hown, hones⟩ := r.hp i _ hi
  have hlen : us.length = new.length := hy.len.symm ▸ rfl
  have hvl := hd.len
  obtain ⟨hvn, hcase⟩ := hown
  rcases hcase with ⟨e0, _⟩ | ⟨g, cap', cur, e0, hbg, hg, hnc, hcm, hcs, htake⟩
  · cases e0
  simp only [Value.slice.injEq, Option.some.injEq, Addr.mk.injEq] at e0
  obtain ⟨⟨rfl, -, -⟩, -, rfl⟩ := e0
  have hcurlen : vals.length ≤ cur.size := by rw [hcs, hvn]; exact Nat.mul_le_mul_right _ hnc
  have hst := run_storeCells_at P b off e us 0 cur w hg (by simp; omega) h1
  simp only [Nat.add_zero] at hst
  have hset := setRow_heap w b cur (cur.toList.take off ++ us ++ cur.toList.drop (off + us.length)).toArray e (0, 0) hg
  have hF : ∀ k, FB V (H.set i (.row (some ⟨b, 0, none⟩) n cap e size (spl cells off new))) k → FB V H k := by
    intro k hk
    rcases hk with hk | ⟨z, hz, e⟩
    · exact .inl hk
    · rcases List.mem_or_eq_of_mem_set hz with hz | rfl
      · exact .inr ⟨z, hz, e⟩
      · exact .inr ⟨_, List.mem_of_getElem? hi, e⟩
  have hother : ∀ k, k ≠ b → (w.setRow b (cur.toList.take off ++ us ++ cur.toList.drop (off + us.length)).toArray).heap[k]? = w.heap[k]? := fun k hk => setRow_other w b k _ hk
  have hsz : (w.setRow b (cur.toList.take off ++ us ++ cur.toList.drop (off + us.length)).toArray).heap.size = w.heap.size := by simp [World.setRow]
  have hbl : b < w.heap.size := (Array.getElem?_eq_some_iff.1 hg).1
  refine ⟨_, hst, Rel.turnAt (w' := w.setRow b (cur.toList.take off ++ us ++ cur.toList.drop (off + us.length)).toArray) (y := .row (some ⟨b, 0, none⟩) n cap e size (spl cells off new)) r i hi rfl rfl rfl (by omega) (fun k _ hk => hother k (fun e => hk (by rw [e]; rfl))) (fun k hk => ⟨by simp [Hp.blk] at hk; omega, .inl hk⟩) ?_⟩
  have hw : ∀ k, k < w.heap.size → ¬ FB V H k → (w.setRow b (cur.toList.take off ++ us ++ cur.toList.drop (off + us.length)).toArray).heap[k]? = w.heap[k]? := fun k _ hn => hother k fun e => hn (.inr ⟨_, List.mem_of_getElem? hi, by rw [e]; rfl⟩)
  refine ⟨vals.take off ++ us ++ vals.drop (off + us.length), DenL.conv (fun k hk => .inl (hF k hk)) hw _ _ (hd.spl hy off), ⟨?_, .inr ⟨b, cap, _, rfl, Nat.zero_le _, hset, hnc, hcm, ?_, ?_⟩⟩, fun u hu => ?_⟩
  · simp; omega
  · simp; omega
  · have hvt : vals = cur.toList.take vals.length := by rw [hvn]; exact htake.symm
    have hcl : cur.toList.length = cur.size := Array.length_toList
    rw [← hvn]
    apply List.ext_getElem?
    intro j
  
    have hvj : ∀ j, j < vals.length → vals[j]? = cur.toList[j]? := fun j hj => by
      conv => lhs; rw [hvt]
      rw [List.getElem?_take, if_pos hj]
    rw [List.getElem?_take]
    split
    · rename_i hj
      rw [splice_get _ _ _ _ (by omega), splice_get _ _ _ _ (by omega)]
      split
      · exact (hvj j hj).symm
      · split
        · rfl
        · exact (hvj j hj).symm
    · rename_i hj
      rw [List.getElem?_eq_none]
      simp; omega
  · simp only [List.mem_append] at hu
    rcases hu with (hu | hu) | hu
    · exact hones u (List.mem_of_mem_take hu)
    · exact h1 u hu
    · exact hones u (List.mem_of_mem_drop hu)
/-- 'clear(s)', s a part of a row of the call's own. -/
theorem Stp_clear (i : Nat) (x : Operand) (t e : TypeId) (z : Value) (bytes b off m mc n cap : Nat) (cells : List AV) (ho : o.op = .call { callee := .builtin .clear, args := #[x], argTypes := #[t] }) (hx : ev T x = .x (.slice (some ⟨b, off, none⟩) m mc)) (hi : H[i]? = some (.row (some ⟨b, 0, none⟩) n cap e 1 cells))
    (hE : ElemAt P t e z 1 bytes) (hz : z.cells = #[z]) (hz1 : z.oneCell' = true) (hn : off + m ≤ cells.length)
    (hK : K (putT T o.dst .top) (H.set i (.row (some ⟨b, 0, none⟩) n cap e 1 (spl cells off (List.replicate m (.x z)))))) : Stp P o T H K := by
  intro V O w0 a w Kc Q r hKc
  obtain ⟨w', hst, hr⟩ := Rel.rowset P r i b off n cap e 1 cells (List.replicate m (.x z)) (List.replicate m z) hi (by rw [← List.map_replicate]; exact DenL.exact) (fun u hu => by rw [List.eq_of_mem_replicate hu]; exact hz1) (by simpa using hn)
  have hzc : (Builtin.zeroCells z.cells m).toList = List.replicate m z := by
    rw [hz]
    simp [Builtin.zeroCells]
    apply List.ext_getElem
    · simp
    · intro i h1 h2
      simp [Nat.mod_one]
  obtain ⟨it, hit, hz0, hsize, hby⟩ := info_parts hE.info
  have hrun : (Builtin.clear_ #[t] o.type #[.slice (some ⟨b, off, none⟩) m mc]).run P w = .ok (.tuple #[]) w' := by
    cases m with
    | zero =>
      simp only [List.replicate_zero, storeCells] at hst
      simp at hst
      simp [Builtin.clear_, run_underlying hE.under, hst]
    | succ m => simp [Builtin.clear_, run_underlying hE.under, zeroValue, typeInfo, hit, hz0, hzc, hst]
  unfold Oper.wp execOp
  simp only [ho, resolve, invoke, builtin, Sem.run_bind, Sem.run_pure, Result.andThen_ok, List.map_toArray, List.map_cons, List.map_nil, r.evx hx, hrun, Oper.upon]
  exact hKc _ _ _ _ hK (Rel.put hr _ (by rw [Den]; trivial))
/-- What is known of a row of the call's own. -/
theorem row_known (r : Rel V O w0 H T a w) (i : Nat) {ad : Option Addr} {n cap : Nat} {e : TypeId} {size : Nat} {cells : List AV} (hi : H[i]? = some (.row ad n cap e size cells)) :
    n ≤ cap ∧ cells.length = n * size ∧ ((ad = none ∧ n = 0 ∧ cap = 0) ∨ ∃ b, ad = some ⟨b, 0, none⟩) := by
  obtain ⟨vals, hd, hown, hones⟩ := r.hp i _ hi
  have hvl := hd.len
  obtain ⟨hvn, hcase⟩ := hown
  rcases hcase with ⟨e0, hv⟩ | ⟨g, cap', cur, e0, hbg, hg, hnc, hcm, hcs, htake⟩
  · simp only [Value.slice.injEq] at e0
    obtain ⟨rfl, rfl, rfl⟩ := e0
    exact ⟨Nat.le_refl _, by omega, .inl ⟨rfl, rfl, rfl⟩⟩
  · simp only [Value.slice.injEq] at e0
    obtain ⟨rfl, -, rfl⟩ := e0
    exact ⟨hnc, by omega, .inr ⟨g, rfl⟩⟩
theorem awp_row {c : Code} (i : Nat) {ad : Option Addr} {n cap : Nat} {e : TypeId} {size : Nat} {cells : List AV} (hi : H[i]? = some (.row ad n cap e size cells))
    (h : n ≤ cap → cells.length = n * size → ((ad = none ∧ n = 0 ∧ cap = 0) ∨ ∃ b, ad = some ⟨b, 0, none⟩) → awp P c Q T H) : awp P c Q T H := fun V O w0 a w r =>
  h (row_known r i hi).1 (row_known r i hi).2.1 (row_known r i hi).2.2 V O w0 a w r
theorem awpL_row {rest : List Oper} (i : Nat) {ad : Option Addr} {n cap : Nat} {e : TypeId} {size : Nat} {cells : List AV} (hi : H[i]? = some (.row ad n cap e size cells))
    (h : n ≤ cap → cells.length = n * size → ((ad = none ∧ n = 0 ∧ cap = 0) ∨ ∃ b, ad = some ⟨b, 0, none⟩) → awpL P ops Q rest T H) : awpL P ops Q rest T H := fun V O w0 a w r =>
  h (row_known r i hi).1 (row_known r i hi).2.1 (row_known r i hi).2.2 V O w0 a w r
theorem ifcap {cap l : Nat} {x y : Addr} (h : ¬ cap = l) : (if cap = l then some x else some y) = some y := if_neg h
/-- All is known whole. -/
def Hp.flat : Hp → Bool
  | .box _ cells => cells.all AV.ex
  | .row _ _ _ _ _ cells => cells.all AV.ex
theorem DenL.hard {F' : Nat → Prop} {l : List AV} {vs : List Value} (hl : l.all AV.ex = true) (h : DenL F w l vs) : DenL F' w' l vs := by
  rw [ex_val hl] at h ⊢
  rw [h.exact']
  exact DenL.exact
theorem HpOk.hard {F' : Nat → Prop} {h : Hp} (hh : h.flat = true) (ho : HpOk F w h) : HpOk F' w h := by
  cases h with
  | box b cells => obtain ⟨vals, hd, rest⟩ := ho; exact ⟨vals, hd.hard hh, rest⟩
  | row ad n cap e size cells => obtain ⟨vals, hd, rest⟩ := ho; exact ⟨vals, hd.hard hh, rest⟩
/-- Rows lent to a function that gives back what is known whole. -/
theorem Spec.lend {f : FuncId} {args args' : List AV} {Q : AV → List Hp → Prop} (D : List Hp) (h : Spec P f H args' Q) (hv : VwL D args args') (hq : ∀ r H', Q r H' → (∃ v, r = .x v) ∧ ∀ x ∈ H', x.flat = true) : Spec P f (H ++ D) args fun r H' => ∃ H1, Q r H1 ∧ H' = H1 ++ D := by
  intro V w vs hV hH hd
  have hap := List.pairwise_append.1 hH.apart
  have hsub : ∀ k, FB V H k → FB V (H ++ D) k := fun k hk => by
    rcases hk with hk | ⟨x, hx, e⟩
    · exact .inl hk
    · exact .inr ⟨x, by simp [hx], e⟩
  have hDout : ∀ x ∈ D, ∀ k, x.blk = some k → ¬ FB V H k := fun x hx k e hk => by
    rcases hk with hk | ⟨y, hy, e'⟩
    · exact (hH.lt x (by simp [hx]) k e).2 hk
    · exact hap.2.2 y hy x hx k e' e
  have hd' : DenL (FB V H) w args' vs := hv.den hsub (fun x hx => ⟨hH.ok x (by simp [hx]), hDout x hx⟩) _ hd
  refine (h V w vs hV ⟨fun x hx => (hH.ok x (by simp [hx])).weak hsub, hap.1, fun x hx k hk => hH.lt x (by simp [hx]) k hk⟩ hd').mono ?_
  rintro e w' ⟨r, H1, v, hqr, rfl, hdv, hok, hfr, hown⟩
  obtain ⟨⟨u, rfl⟩, hflat⟩ := hq r H1 hqr
  have hF : ∀ k, FB V (H1 ++ D) k → FB V (H ++ D) k ∨ w.heap.size ≤ k := fun k hk => by
    rcases hk with hk | ⟨x, hx, e⟩
    · exact .inl (.inl hk)
    · rcases List.mem_append.1 hx with hx | hx
      · rcases hown x hx k e with ⟨y, hy, e'⟩ | h
        · exact .inl (.inr ⟨y, by simp [hy], e'⟩)
        · exact .inr h
      · exact .inl (.inr ⟨x, by simp [hx], e⟩)
  have hw : ∀ k, k < w.heap.size → ¬ FB V (H ++ D) k → w'.heap[k]? = w.heap[k]? := fun k hk hn => hfr.block k hk fun ⟨y, hy, e⟩ => hn (.inr ⟨y, by simp [hy], e⟩)
  refine ⟨_, _, v, ⟨H1, hqr, rfl⟩, rfl, by simp only [Den] at hdv ⊢; exact hdv, ⟨fun x hx => ?_, List.pairwise_append.2 ⟨hok.apart, hap.2.1, fun x hx y hy k hk e => ?_⟩, fun x hx k hk => ?_⟩, ⟨hfr.os, hfr.tape, hfr.output, hfr.size, fun k hk hn => hfr.block k hk fun ⟨y, hy, e⟩ => hn ⟨y, by simp [hy], e⟩⟩, fun x hx k hk => ?_⟩
  · rcases List.mem_append.1 hx with hx | hx
    · exact (hok.ok x hx).hard (hflat x hx)
    · exact (hH.ok x (by simp [hx])).conv hF hw hfr.size fun k hk => hfr.block k (hH.lt x (by simp [hx]) k hk).1 fun ⟨y, hy, e⟩ => hDout x hx k hk (.inr ⟨y, hy, e⟩)
  · rcases hown x hx k hk with ⟨z, hz, e'⟩ | h
    · exact hDout y hy k e (.inr ⟨z, hz, e'⟩)
    · have := (hH.lt y (by simp [hy]) k e).1; omega
  · rcases List.mem_append.1 hx with hx | hx
    · exact hok.lt x hx k hk
    · exact ⟨Nat.lt_of_lt_of_le (hH.lt x (by simp [hx]) k hk).1 hfr.size, (hH.lt x (by simp [hx]) k hk).2⟩
  · rcases List.mem_append.1 hx with hx | hx
    · rcases hown x hx k hk with ⟨y, hy, e⟩ | h
      · exact .inl ⟨y, by simp [hy], e⟩
      · exact .inr h
    · exact .inl ⟨x, by simp [hx], hk⟩
/-- A call that is lent all rows of the call's own, and gives what is known whole. -/
theorem Evl_callL {c : Operand} {args : Array Operand} {tys : Array TypeId} {fs cs : Array Value} (f : FuncId) (fn : Func) (avs : List AV) (res : Value) (ho : o.op = .call { callee := .value c, args := args, argTypes := tys }) (hc : ρ c = .x (.func (.func f) fs cs))
    (hf : P.funcs[f]? = some fn) (hn : fn.name ≠ "runtime.NumGoroutine") (hb : fn.body.isSome = true) (hargs : VwL H (fs.toList.map .x ++ args.toList.map ρ ++ cs.toList.map .x) avs) (hS : Spec P f [] avs fun r H' => r = .x res ∧ H' = []) : Evl P o ρ H (.x res) := by
  intro V a w Kc Qc r hKc
  have hmem : ∀ x ∈ args.toList, x ∈ o.op.operands := fun x hx => by simp [ho, Op.operands, Call.operands]; exact .inr (by simpa using hx)
  have hFF : ∀ k, FB V [] k → V k := fun k hk => by
    rcases hk with hk | ⟨x, hx, _⟩
    · exact hk
    · cases hx
  have hd : DenL (FB V []) w avs (fs.toList ++ args.toList.map a.eval ++ cs.toList) := hargs.den (fun k hk => .inl (hFF k hk)) (fun h hh => ⟨r.hok.ok h hh, fun k e hk => (r.hok.lt h hh k e).2 (hFF k hk)⟩) _ ((DenL.exact.app (denL_ops r _ hmem)).app DenL.exact)
  refine wp_call_of ho (r.evx (by simp [ho, Op.operands, Call.operands]) hc) hf hn hb (vs := (fs.toList ++ args.toList.map a.eval ++ cs.toList).toArray) (by apply Array.toList_inj.1; simp) ?_
  refine (hS V w _ r.vlt ⟨fun x hx => (by cases hx), .nil, fun x hx => (by cases hx)⟩ hd).mono ?_
  rintro e w' ⟨res', H', v, ⟨rfl, rfl⟩, rfl, hdv, _, hfr, _⟩
  have hE : Ext w w' := ⟨hfr.os, hfr.tape, hfr.output, hfr.size, fun k hk => hfr.block k hk fun ⟨y, hy, _⟩ => by cases hy⟩
  exact ⟨v, rfl, hKc v w' hE (by simp only [Den] at hdv ⊢; exact hdv)⟩
theorem DenL.strip {l : List AV} {vs : List Value} (h : DenL F w l vs) : DenL F w (l.map str) vs := by
  refine DenL.of (by simp [h.len]) fun j av u h1 h2 => ?_
  rw [List.getElem?_map] at h1
  cases hj : l[j]? with
  | none => rw [hj] at h1; cases h1
  | some x =>
    rw [hj] at h1; cases h1
    exact (h.get' j x u hj h2).str
theorem Rel.strip (r : Rel V O w0 H T a w) : Rel V O w0 H (T.map str) a w := { r with tmps := r.tmps.strip }
/-- A guarded operation that may turn memory: both ways. -/
theorem awpL_gs {rest : List Oper} {j : Nat} {want : Bool} {t : Nat} (p : Bool) (hg : o.guard = some (j, want)) (hd : (ops[j]?).bind (·.dst) = some t) (hp : gdc want (T.getD t .top) = some p)
    (h1 : p = true → Stp P o (T.map str) H (awpL P ops Q rest)) (h0 : p = false → awpL P ops Q rest (putT T o.dst (.x undef)) H) : awpL P ops Q (o :: rest) T H := fun V O w0 a w r =>
  wpList_step fun K hKc => by
    rw [wanted_of r hg hd hp]
    cases hpb : p with
    | true =>
      simp only [if_true]
      exact h1 hpb V O w0 a w K _ r.strip fun T' H' a' w' hk hr => hKc _ _ (hk V O w0 a' w' hr)
    | false =>
      simp only [Bool.false_eq_true, if_false]
      exact hKc _ _ (h0 hpb V O w0 _ _ (r.put _ (by rw [Den])))
/-- A scope with one label: what lies behind the label, once. -/
theorem awp_scopeK {S : Type} {c rest : Code} (l : Nat) (Tf : S → List AV) (Hf : S → List Hp) (Inv : S → Prop) (m : S → Nat) (hf : findLabel c l = some (.seq .skip rest))
    (pass : ∀ s, Inv s → awp P rest (jumpA l (fun T' H' => ∃ s', m s' < m s ∧ Inv s' ∧ Weak H' T' (Hf s') (Tf s')) Q) (Tf s) (Hf s))
    (first : (∀ s, Inv s → awp P rest (jumpA l (fun T' H' => ∃ s', Inv s' ∧ Weak H' T' (Hf s') (Tf s')) Q) (Tf s) (Hf s)) → awp P c (jumpA l (fun T' H' => ∃ s', Inv s' ∧ Weak H' T' (Hf s') (Tf s')) Q) T H) : awp P (.scope c) Q T H :=
  awp_scopeS l Tf Hf Inv m hf (first fun s hs => awp_mono (pass s hs) fun e T H q => by
    cases e <;> simp only [jumpA] at q ⊢ <;> first
      | exact q
      | (obtain ⟨e, s', -, h1, h2⟩ := q; exact ⟨e, s', h1, h2⟩)) fun s hs => awp_seq (awp_skip (thenA_normal (pass s hs)))
end
end Go.Proofs.Ytjgafhnppplmoaa
