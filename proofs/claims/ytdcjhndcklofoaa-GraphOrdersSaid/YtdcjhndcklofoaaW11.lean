import Derived.Test.YtdcjhndcklofoaaW10
import Derived.ScopeJumps
import Derived.Lib.SliceRun
/- A walk over symbolic memory: regions that draw their order and turn memory; jumps; clear. No program in sight. -/
namespace Go.Proofs.Ytdcjhndcklofoaa
open Go.RowKit
set_option linter.unusedSimpArgs false
set_option linter.unusedVariables false
section
variable {P : Program} {V O : Nat → Prop} {w0 w w' : World} {H H' D : List Hp} {T T' : List AV} {a : Act} {o : Oper} {K : List AV → List Hp → Prop} {ρ : Operand → AV} {ops : Array Oper} {Q : Post} {F : Nat → Prop} {listed : Array Bool} {fuel : Nat}
/-- The i-th operation, reckoned by looking. -/
def nthO : List Oper → Nat → Option Oper
  | [], _ => none
  | o :: _, 0 => some o
  | _ :: l, n + 1 => nthO l n
theorem nthO_eq : ∀ (l : List Oper) (i : Nat), nthO l i = l[i]?
  | [], i => by simp [nthO]
  | o :: l, 0 => by simp [nthO]
  | o :: l, i + 1 => by simp [nthO, nthO_eq l i]
/-- The rest of such a region, those listed done. -/
def awpA (P : Program) (ops : Array Oper) (Q : Post) (fuel : Nat) (listed : Array Bool) (T : List AV) (H : List Hp) : Prop :=
  ∀ V O w0 a w, Rel V O w0 H T a w → wpAny P .any ops (lift V O w0 Q) fuel listed a w
theorem awp_drawnA {id : Nat} {l : List Oper} (hm : P.follows .mixedOrders = true) (h : awpA P l.toArray Q l.length (Array.replicate l.length false) T H) : awp P (.region id l.toArray true) Q T H :=
  awp_drawn hm fun V O w0 a w r => by have := h V O w0 a w r; simpa using this
theorem awpA_cong {T' : List AV} {H' : List Hp} (hT : T = T') (hH : H = H') (h : awpA P ops Q fuel listed T' H') : awpA P ops Q fuel listed T H := hT ▸ hH ▸ h
theorem awpA_done (hr : Region.ready .any ops listed = []) (h : Q .normal T H) : awpA P ops Q fuel listed T H := fun V O w0 a w r => wpAny_done hr ⟨T, H, r, h⟩ fuel
/-- What the operation gives hangs on no memory. -/
def WInd (P : Program) (o : Oper) (ρ : Operand → AV) (H : List Hp) (av : AV) : Prop :=
  ∀ (V : Nat → Prop) (a : Act) (w : World), OK V H ρ o a w → ∃ v, (∀ w', (execOp a.eval o).run P w' = .ok (.value v) w') ∧ Den (FB V H) w av v
def takeOk (ops : Array Oper) (listed : Array Bool) (i : Nat) : Bool := Region.noSelect ops && Region.free .any ops listed i && (Region.ready .any ops listed).contains i
theorem awpA_take (i : Nat) {o : Oper} {l : List Oper} (hi : nthO l i = some o) (hg : o.guard = none) (hc : takeOk l.toArray listed i = true) (hpan : ∀ c T H, ¬ Q (.panic c) T H) (av : AV) (h : WInd P o (ev T) H av) (hK : awpA P l.toArray Q fuel (listed.setIfInBounds i true) (putT T o.dst av) H) : awpA P l.toArray Q (fuel + 1) listed T H := by
  have hi : l.toArray[i]? = some o := by rw [List.getElem?_toArray, ← nthO_eq]; exact hi
  intro V O w0 a w r
  unfold takeOk at hc
  simp only [Bool.and_eq_true] at hc
  obtain ⟨v, hv, hd⟩ := h V a w (r.oks o)
  refine wpAny_take hi hc.1.1 hc.1.2 hc.2 (fun c a w ⟨T, H, _, hq⟩ => absurd hq (hpan c T H)) (.inl ⟨by simp [Region.wanted, hg], hv⟩) (hK V O w0 _ w (r.put _ hd))
theorem wpOp_of_stp {i : Nat} (hi : ops[i]? = some o) (hg : o.guard = none) (h : Stp P o T H K) (V O : Nat → Prop) (w0 : World) (r : Rel V O w0 H T a w) (Kc : Act → World → Prop) (Qc : Exit → Act → World → Prop) (hK : ∀ T' H' a' w', K T' H' → Rel V O w0 H' T' a' w' → Kc a' w') : wpOp P ops Qc i Kc a w := by
  unfold wpOp
  simp only [hi]
  rw [if_pos (by simp [Region.wanted, hg])]
  exact .inl (h V O w0 a w Kc Qc r hK)
/-- One operation may come up. -/
theorem awpA_1 (i : Nat) {o : Oper} {l : List Oper} (hr : Region.ready .any l.toArray listed = [i]) (hi : nthO l i = some o) (hg : o.guard = none) (h : Stp P o T H (awpA P l.toArray Q fuel (listed.setIfInBounds i true))) : awpA P l.toArray Q (fuel + 1) listed T H := fun V O w0 a w r =>
  wpAny_all hr (by simp) fun j hj => by
    rw [List.mem_singleton] at hj; subst hj
    have hi : l.toArray[j]? = some o := by rw [List.getElem?_toArray, ← nthO_eq]; exact hi
    exact wpOp_of_stp hi hg h V O w0 r _ _ fun T' H' a' w' hk hr => hk V O w0 a' w' hr
/-- One of two may come up. -/
theorem awpA_2 (i j : Nat) {o q : Oper} {l : List Oper} (hr : Region.ready .any l.toArray listed = [i, j]) (hi : nthO l i = some o) (hg : o.guard = none) (hj : nthO l j = some q) (hgj : q.guard = none) (h : Stp P o T H (awpA P l.toArray Q fuel (listed.setIfInBounds i true))) (h2 : Stp P q T H (awpA P l.toArray Q fuel (listed.setIfInBounds j true))) : awpA P l.toArray Q (fuel + 1) listed T H := fun V O w0 a w r =>
  wpAny_all hr (by simp) fun k hk => by
    have hi : l.toArray[i]? = some o := by rw [List.getElem?_toArray, ← nthO_eq]; exact hi
    have hj : l.toArray[j]? = some q := by rw [List.getElem?_toArray, ← nthO_eq]; exact hj
    rcases List.mem_cons.1 hk with rfl | hk
    · exact wpOp_of_stp hi hg h V O w0 r _ _ fun T' H' a' w' hk hr => hk V O w0 a' w' hr
    · rw [List.mem_singleton] at hk; subst hk
      exact wpOp_of_stp hj hgj h2 V O w0 r _ _ fun T' H' a' w' hk hr => hk V O w0 a' w' hr
theorem WInd_mv (x : Operand) (ho : o.op = .move x) : WInd P o ρ H (ρ x) := fun V a w r => ⟨a.eval x, fun w' => by simp [execOp, ho], r.ops x (by simp [ho, Op.operands])⟩
theorem WInd_as (x : Operand) (ho : o.op = .assign x) : WInd P o ρ H (ρ x) := fun V a w r => ⟨a.eval x, fun w' => by simp [execOp, ho], r.ops x (by simp [ho, Op.operands])⟩
theorem WInd_x (v : Value) (hs : ∀ cs b, o.op ≠ .select cs b) (hx : (o.op.operands.toList.all fun x => (ρ x).ex) = true)
    (hrun : ∀ w, (execOp (fun x => (ρ x).val) o).run P w = .ok (.value v) w) : WInd P o ρ H (.x v) := fun V a w r => ⟨v, fun w' => by
  have he : execOp a.eval o = execOp (fun x => (ρ x).val) o := execOp_congr o hs fun x h => by
    have hex := List.all_eq_true.1 hx x (by simpa using h)
    have hd := r.ops x h
    cases hv : ρ x with
    | x v => rw [hv, Den] at hd; rw [hd]; rfl
    | _ => rw [hv] at hex; cases hex
  rw [he]; exact hrun w', by rw [Den]⟩
theorem WInd_nil (x : Operand) (b off : Nat) (ho : o.op = .nilCheck x) (hx : ρ x = .x (.pointer (some ⟨b, off, none⟩))) : WInd P o ρ H (.x (.pointer (some ⟨b, off, none⟩))) := fun V a w r =>
  ⟨.pointer (some ⟨b, off, none⟩), fun w' => by simp [execOp, ho, r.evx (by simp [ho, Op.operands]) hx], by rw [Den]⟩
theorem WInd_field_x (s : TypeId) (x : Operand) (f k b off : Nat) (ho : o.op = .fieldAddr s x f) (hx : ρ x = .x (.pointer (some ⟨b, off, none⟩))) (hk : fldT P s f = some k) : WInd P o ρ H (.x (.pointer (some ⟨b, off + k, none⟩))) := fun V a w r =>
  ⟨.pointer (some ⟨b, off + k, none⟩), fun w' => by simp [execOp, ho, r.evx (by simp [ho, Op.operands]) hx, run_fieldAt s f k hk], by rw [Den]⟩
theorem WInd_index_own (t e : TypeId) (x y : Operand) (size b off n cap : Nat) (k : IntKind) (i : Int) (j : Nat) (ho : o.op = .indexAddr t x y) (hx : ρ x = .x (.slice (some ⟨b, off, none⟩) n cap)) (hy : ρ y = .x (.int k i)) (ht : elT P t = some (e, size)) (hi : i = (j : Int)) (h1 : j < n) : WInd P o ρ H (.x (.pointer (some ⟨b, off + j * size, none⟩))) := by
  subst hi
  exact fun V a w r => ⟨.pointer (some ⟨b, off + j * size, none⟩), fun w' => by simp [execOp, ho, r.evx (x := x) (by simp [ho, Op.operands]) hx, r.evx (x := y) (by simp [ho, Op.operands]) hy, run_indexAt t e size ht b off n cap k j (by omega) (by omega)], by rw [Den]⟩
theorem WInd_k (n : Nat) {av : AV} (hk : opk o.op = n) (h : WInd P o ρ H av) : WInd P o ρ H av := h

/-- A guard that says no. -/
theorem awpL_gf {rest : List Oper} {j : Nat} {want : Bool} {t : Nat} {T' : List AV} (hg : o.guard = some (j, want)) (hd : (ops[j]?).bind (·.dst) = some t) (hp : gdc want (T.getD t .top) = some false) (hT : putT T o.dst (.x undef) = T') (hK : awpL P ops Q rest T' H) : awpL P ops Q (o :: rest) T H := fun V O w0 a w r =>
  wpList_step fun K hKc => by
    rw [wanted_of r hg hd hp]
    simp only [Bool.false_eq_true, if_false]
    exact hKc _ _ ((hT ▸ hK) V O w0 _ _ (r.put _ (by rw [Den])))
theorem dr_gf {rest : List Oper} {fin : List AV → Prop} {j : Nat} {want : Bool} {t : Nat} {T' : List AV} (hg : o.guard = some (j, want)) (hd : (ops[j]?).bind (·.dst) = some t) (hp : gdc want (T.getD t .top) = some false) (hT : putT T o.dst (.g false .top) = T') (hK : dr P H ops rest T' fin) : dr P H ops (o :: rest) T fin :=
  dr_g false .top hg hd hp (fun h => by cases h) (hT ▸ hK)
/-! ### Jumps -/

def jumpA (l : Nat) (J : List AV → List Hp → Prop) (Q : Post) : Post
  | .goto l', T, H => l' = l ∧ J T H
  | e, T, H => Q e T H
theorem jumpA_normal {l : Nat} {J : List AV → List Hp → Prop} (h : Q .normal T H) : jumpA l J Q .normal T H := h
theorem jumpA_exit {l id : Nat} {J : List AV → List Hp → Prop} (h : Q (.exit id) T H) : jumpA l J Q (.exit id) T H := h
theorem jumpA_ret {l : Nat} {J : List AV → List Hp → Prop} (h : Q .ret T H) : jumpA l J Q .ret T H := h
theorem jumpA_goto {l : Nat} {J : List AV → List Hp → Prop} (h : J T H) : jumpA l J Q (.goto l) T H := ⟨rfl, h⟩
theorem awp_label {l : Nat} (h : Q .normal T H) : awp P (.label l) Q T H := fun V O w0 a w r => wp_label ⟨T, H, r, h⟩
theorem awp_goto {l : Nat} (h : Q (.goto l) T H) : awp P (.goto l) Q T H := fun V O w0 a w r => wp_goto ⟨T, H, r, h⟩
/-- A piece of code in which the run jumps back to one label. -/
theorem awp_scopeS {S : Type} {c rest : Code} (l : Nat) (Tf : S → List AV) (Hf : S → List Hp) (Inv : S → Prop) (m : S → Nat) (hf : findLabel c l = some rest)
    (first : awp P c (jumpA l (fun T' H' => ∃ s', Inv s' ∧ Weak H' T' (Hf s') (Tf s')) Q) T H)
    (pass : ∀ s, Inv s → awp P rest (jumpA l (fun T' H' => ∃ s', m s' < m s ∧ Inv s' ∧ Weak H' T' (Hf s') (Tf s')) Q) (Tf s) (Hf s)) : awp P (.scope c) Q T H := by
  intro V O w0 a w r b k cs
  have hg : gotoIn l (.inScope c :: k) = some (.code rest :: .inScope c :: k) := by simp [gotoIn, hf]
  have key : ∀ n s a w, m s = n → Inv s → Rel V O w0 (Hf s) (Tf s) a w → ∃ e a' w', lift V O w0 Q e a' w' ∧ Arrives P (lone (b.at a (.code rest :: .inScope c :: k)) cs w) b k cs e a' w' := by
    intro n
    induction n using Nat.strongRecOn with
    | _ n ih =>
      intro s a w hn hI hr
      obtain ⟨e, a₁, w₁, ⟨T1, H1, r1, q1⟩, harr⟩ := pass s hI V O w0 a w hr b (.inScope c :: k) cs
      cases e with
      | normal => exact ⟨.normal, a₁, w₁, ⟨T1, H1, r1, q1⟩, Steps.trans harr (.one step_inScope)⟩
      | exit id => exact ⟨.exit id, a₁, w₁, ⟨T1, H1, r1, q1⟩, fun k' hk => harr k' (by simp [exitTo, hk])⟩
      | goto l' =>
        obtain ⟨rfl, s', hlt, hI', hw⟩ := q1
        obtain ⟨e₂, a₂, w₂, hq₂, harr₂⟩ := ih (m s') (by omega) s' a₁ w₁ rfl hI' (r1.weaken hw)
        exact ⟨e₂, a₂, w₂, hq₂, .of_steps (harr _ hg) harr₂⟩
      | ret => exact ⟨_, a₁, w₁, ⟨T1, H1, r1, q1⟩, harr⟩
      | panic ch => exact ⟨_, a₁, w₁, ⟨T1, H1, r1, q1⟩, harr⟩
      | outgrown => exact ⟨_, a₁, w₁, ⟨T1, H1, r1, q1⟩, harr⟩
  obtain ⟨e, a₁, w₁, ⟨T1, H1, r1, q1⟩, harr⟩ := first V O w0 a w r b (.inScope c :: k) cs
  cases e with
  | normal => exact ⟨.normal, a₁, w₁, ⟨T1, H1, r1, q1⟩, .head step_scope (Steps.trans harr (.one step_inScope))⟩
  | exit id => exact ⟨.exit id, a₁, w₁, ⟨T1, H1, r1, q1⟩, fun k' hk => .head step_scope (harr k' (by simp [exitTo, hk]))⟩
  | goto l' =>
    obtain ⟨rfl, s', hI', hw⟩ := q1
    obtain ⟨e₂, a₂, w₂, hq₂, harr₂⟩ := key _ s' a₁ w₁ rfl hI' (r1.weaken hw)
    exact ⟨e₂, a₂, w₂, hq₂, .of_steps (.head step_scope (harr _ hg)) harr₂⟩
  | ret => exact ⟨_, a₁, w₁, ⟨T1, H1, r1, q1⟩, .of_steps (.one step_scope) harr⟩
  | panic ch => exact ⟨_, a₁, w₁, ⟨T1, H1, r1, q1⟩, .of_steps (.one step_scope) harr⟩
  | outgrown => exact ⟨_, a₁, w₁, ⟨T1, H1, r1, q1⟩, .of_steps (.one step_scope) harr⟩
end
end Go.Proofs.Ytdcjhndcklofoaa
/- A walk over symbolic memory: 'clear'. No program in sight. -/
namespace Go.Proofs.Ytdcjhndcklofoaa
open Go.RowKit
set_option linter.unusedSimpArgs false
set_option linter.unusedVariables false
section
variable {P : Program} {V O : Nat → Prop} {w0 w w' : World} {H H' D : List Hp} {T T' : List AV} {a : Act} {o : Oper} {K : List AV → List Hp → Prop} {ρ : Operand → AV} {ops : Array Oper} {Q : Post} {F : Nat → Prop}
/-- New cells in a row of the call's own. -/
theorem Rel.rowset (P : Program) (r : Rel V O w0 H T a w) (i : Nat) (b off n cap : Nat) (e : TypeId) (size : Nat) (cells new : List AV) (us : List Value) (hi : H[i]? = some (.row (some ⟨b, 0, none⟩) n cap e size cells)) (hy : DenL (FB V H) w new us) (h1 : ∀ u ∈ us, u.oneCell' = true) (hn : off + new.length ≤ cells.length) :
    ∃ w', (storeCells ⟨b, off, none⟩ us).run P w = .ok () w' ∧ Rel V O w0 (H.set i (.row (some ⟨b, 0, none⟩) n cap e size (spl cells off new))) T a w' := by
  obtain ⟨vals, hd, hown, hones⟩ := r.hp i _ hi
  have hlen : us.length = new.length := hy.len.symm ▸ rfl
  have hvl := hd.len
  obtain ⟨hvn, hcase⟩ := hown
  rcases hcase with ⟨e0, _⟩ | ⟨g, cap', cur, e0, hbg, hg, hnc, hcm, hcs, htake⟩
  · cases e0
  simp only [Value.slice.injEq, Option.some.injEq, Addr.mk.injEq] at e0
  obtain ⟨⟨rfl, -, -⟩, -, rfl⟩ := e0
  have hcurlen : vals.length ≤ cur.size := by rw [hcs, hvn]; exact Nat.mul_le_mul_right _ hnc
  have hst := run_storeCells_at P b off e us 0 cur w hg (by simp; omega) h1
  simp only [Nat.add_zero] at hst
  have hset := setRow_heap w b cur (cur.toList.take off ++ us ++ cur.toList.drop (off + us.length)).toArray e (0, 0) hg
  have hF : ∀ k, FB V (H.set i (.row (some ⟨b, 0, none⟩) n cap e size (spl cells off new))) k → FB V H k := by
    intro k hk
    rcases hk with hk | ⟨z, hz, e⟩
    · exact .inl hk
    · rcases List.mem_or_eq_of_mem_set hz with hz | rfl
      · exact .inr ⟨z, hz, e⟩
      · exact .inr ⟨_, List.mem_of_getElem? hi, e⟩
  have hother : ∀ k, k ≠ b → (w.setRow b (cur.toList.take off ++ us ++ cur.toList.drop (off + us.length)).toArray).heap[k]? = w.heap[k]? := fun k hk => setRow_other w b k _ hk
  have hsz : (w.setRow b (cur.toList.take off ++ us ++ cur.toList.drop (off + us.length)).toArray).heap.size = w.heap.size := by simp [World.setRow]
  have hbl : b < w.heap.size := (Array.getElem?_eq_some_iff.1 hg).1
  refine ⟨_, hst, Rel.turnAt (w' := w.setRow b (cur.toList.take off ++ us ++ cur.toList.drop (off + us.length)).toArray) (y := .row (some ⟨b, 0, none⟩) n cap e size (spl cells off new)) r i hi rfl rfl rfl (by omega) (fun k _ hk => hother k (fun e => hk (by rw [e]; rfl))) (fun k hk => ⟨by simp [Hp.blk] at hk; omega, .inl hk⟩) ?_⟩
  have hw : ∀ k, k < w.heap.size → ¬ FB V H k → (w.setRow b (cur.toList.take off ++ us ++ cur.toList.drop (off + us.length)).toArray).heap[k]? = w.heap[k]? := fun k _ hn => hother k fun e => hn (.inr ⟨_, List.mem_of_getElem? hi, by rw [e]; rfl⟩)
  refine ⟨vals.take off ++ us ++ vals.drop (off + us.length), DenL.conv (fun k hk => .inl (hF k hk)) hw _ _ (hd.spl hy off), ⟨?_, .inr ⟨b, cap, _, rfl, Nat.zero_le _, hset, hnc, hcm, ?_, ?_⟩⟩, fun u hu => ?_⟩
  · simp; omega
  · simp; omega
  · have hvt : vals = cur.toList.take vals.length := by rw [hvn]; exact htake.symm
    have hcl : cur.toList.length = cur.size := Array.length_toList
    rw [← hvn]
    apply List.ext_getElem?
    intro j
  
    have hvj : ∀ j, j < vals.length → vals[j]? = cur.toList[j]? := fun j hj => by
      conv => lhs; rw [hvt]
      rw [List.getElem?_take, if_pos hj]
    rw [List.getElem?_take]
    split
    · rename_i hj
      rw [splice_get _ _ _ _ (by omega), splice_get _ _ _ _ (by omega)]
      split
      · exact (hvj j hj).symm
      · split
        · rfl
        · exact (hvj j hj).symm
    · rename_i hj
      rw [List.getElem?_eq_none]
      simp; omega
  · simp only [List.mem_append] at hu
    rcases hu with (hu | hu) | hu
    · exact hones u (List.mem_of_mem_take hu)
    · exact h1 u hu
    · exact hones u (List.mem_of_mem_drop hu)
/-- 'clear(s)', s a part of a row of the call's own. -/
theorem Stp_clear (i : Nat) (x : Operand) (t e : TypeId) (z : Value) (bytes b off m mc n cap : Nat) (cells : List AV) (ho : o.op = .call { callee := .builtin .clear, args := #[x], argTypes := #[t] }) (hx : ev T x = .x (.slice (some ⟨b, off, none⟩) m mc)) (hi : H[i]? = some (.row (some ⟨b, 0, none⟩) n cap e 1 cells))
    (hE : ElemAt P t e z 1 bytes) (hz : z.cells = #[z]) (hz1 : z.oneCell' = true) (hn : off + m ≤ cells.length)
    (hK : K (putT T o.dst .top) (H.set i (.row (some ⟨b, 0, none⟩) n cap e 1 (spl cells off (List.replicate m (.x z)))))) : Stp P o T H K := by
  intro V O w0 a w Kc Q r hKc
  obtain ⟨w', hst, hr⟩ := Rel.rowset P r i b off n cap e 1 cells (List.replicate m (.x z)) (List.replicate m z) hi (by rw [← List.map_replicate]; exact DenL.exact) (fun u hu => by rw [List.eq_of_mem_replicate hu]; exact hz1) (by simpa using hn)
  have hzc : (Builtin.zeroCells z.cells m).toList = List.replicate m z := by
    rw [hz]
    simp [Builtin.zeroCells]
    apply List.ext_getElem
    · simp
    · intro i h1 h2
      simp [Nat.mod_one]
  obtain ⟨it, hit, hz0, hsize, hby⟩ := info_parts hE.info
  have hrun : (Builtin.clear_ #[t] o.type #[.slice (some ⟨b, off, none⟩) m mc]).run P w = .ok (.tuple #[]) w' := by
    cases m with
    | zero =>
      simp only [List.replicate_zero, storeCells] at hst
      simp at hst
      simp [Builtin.clear_, run_underlying hE.under, hst]
    | succ m => simp [Builtin.clear_, run_underlying hE.under, zeroValue, typeInfo, hit, hz0, hzc, hst]
  unfold Oper.wp execOp
  simp only [ho, resolve, invoke, builtin, Sem.run_bind, Sem.run_pure, Result.andThen_ok, List.map_toArray, List.map_cons, List.map_nil, r.evx hx, hrun, Oper.upon]
  exact hKc _ _ _ _ hK (Rel.put hr _ (by rw [Den]; trivial))
/-- What is known of a row of the call's own. -/
theorem row_known (r : Rel V O w0 H T a w) (i : Nat) {ad : Option Addr} {n cap : Nat} {e : TypeId} {size : Nat} {cells : List AV} (hi : H[i]? = some (.row ad n cap e size cells)) :
    n ≤ cap ∧ cells.length = n * size ∧ ((ad = none ∧ n = 0 ∧ cap = 0) ∨ ∃ b, ad = some ⟨b, 0, none⟩) := by
  obtain ⟨vals, hd, hown, hones⟩ := r.hp i _ hi
  have hvl := hd.len
  obtain ⟨hvn, hcase⟩ := hown
  rcases hcase with ⟨e0, hv⟩ | ⟨g, cap', cur, e0, hbg, hg, hnc, hcm, hcs, htake⟩
  · simp only [Value.slice.injEq] at e0
    obtain ⟨rfl, rfl, rfl⟩ := e0
    exact ⟨Nat.le_refl _, by omega, .inl ⟨rfl, rfl, rfl⟩⟩
  · simp only [Value.slice.injEq] at e0
    obtain ⟨rfl, -, rfl⟩ := e0
    exact ⟨hnc, by omega, .inr ⟨g, rfl⟩⟩
theorem awp_row {c : Code} (i : Nat) {ad : Option Addr} {n cap : Nat} {e : TypeId} {size : Nat} {cells : List AV} (hi : H[i]? = some (.row ad n cap e size cells))
    (h : n ≤ cap → cells.length = n * size → ((ad = none ∧ n = 0 ∧ cap = 0) ∨ ∃ b, ad = some ⟨b, 0, none⟩) → awp P c Q T H) : awp P c Q T H := fun V O w0 a w r =>
  h (row_known r i hi).1 (row_known r i hi).2.1 (row_known r i hi).2.2 V O w0 a w r
theorem awpL_row {rest : List Oper} (i : Nat) {ad : Option Addr} {n cap : Nat} {e : TypeId} {size : Nat} {cells : List AV} (hi : H[i]? = some (.row ad n cap e size cells))
    (h : n ≤ cap → cells.length = n * size → ((ad = none ∧ n = 0 ∧ cap = 0) ∨ ∃ b, ad = some ⟨b, 0, none⟩) → awpL P ops Q rest T H) : awpL P ops Q rest T H := fun V O w0 a w r =>
  h (row_known r i hi).1 (row_known r i hi).2.1 (row_known r i hi).2.2 V O w0 a w r
theorem ifcap {cap l : Nat} {x y : Addr} (h : ¬ cap = l) : (if cap = l then some x else some y) = some y := if_neg h
/-- All is known whole. -/
def Hp.flat : Hp → Bool
  | .box _ cells => cells.all AV.ex
  | .row _ _ _ _ _ cells => cells.all AV.ex
theorem DenL.hard {F' : Nat → Prop} {l : List AV} {vs : List Value} (hl : l.all AV.ex = true) (h : DenL F w l vs) : DenL F' w' l vs := by
  rw [ex_val hl] at h ⊢
  rw [h.exact']
  exact DenL.exact
theorem HpOk.hard {F' : Nat → Prop} {h : Hp} (hh : h.flat = true) (ho : HpOk F w h) : HpOk F' w h := by
  cases h with
  | box b cells => obtain ⟨vals, hd, rest⟩ := ho; exact ⟨vals, hd.hard hh, rest⟩
  | row ad n cap e size cells => obtain ⟨vals, hd, rest⟩ := ho; exact ⟨vals, hd.hard hh, rest⟩
/-- Rows lent to a function that gives back what is known whole. -/
theorem Spec.lend {f : FuncId} {args args' : List AV} {Q : AV → List Hp → Prop} (D : List Hp) (h : Spec P f H args' Q) (hv : VwL D args args') (hq : ∀ r H', Q r H' → (∃ v, r = .x v) ∧ ∀ x ∈ H', x.flat = true) : Spec P f (H ++ D) args fun r H' => ∃ H1, Q r H1 ∧ H' = H1 ++ D := by
  intro V w vs hV hH hd
  have hap := List.pairwise_append.1 hH.apart
  have hsub : ∀ k, FB V H k → FB V (H ++ D) k := fun k hk => by
    rcases hk with hk | ⟨x, hx, e⟩
    · exact .inl hk
    · exact .inr ⟨x, by simp [hx], e⟩
  have hDout : ∀ x ∈ D, ∀ k, x.blk = some k → ¬ FB V H k := fun x hx k e hk => by
    rcases hk with hk | ⟨y, hy, e'⟩
    · exact (hH.lt x (by simp [hx]) k e).2 hk
    · exact hap.2.2 y hy x hx k e' e
  have hd' : DenL (FB V H) w args' vs := hv.den hsub (fun x hx => ⟨hH.ok x (by simp [hx]), hDout x hx⟩) _ hd
  refine (h V w vs hV ⟨fun x hx => (hH.ok x (by simp [hx])).weak hsub, hap.1, fun x hx k hk => hH.lt x (by simp [hx]) k hk⟩ hd').mono ?_
  rintro e w' ⟨r, H1, v, hqr, rfl, hdv, hok, hfr, hown⟩
  obtain ⟨⟨u, rfl⟩, hflat⟩ := hq r H1 hqr
  have hF : ∀ k, FB V (H1 ++ D) k → FB V (H ++ D) k ∨ w.heap.size ≤ k := fun k hk => by
    rcases hk with hk | ⟨x, hx, e⟩
    · exact .inl (.inl hk)
    · rcases List.mem_append.1 hx with hx | hx
      · rcases hown x hx k e with ⟨y, hy, e'⟩ | h
        · exact .inl (.inr ⟨y, by simp [hy], e'⟩)
        · exact .inr h
      · exact .inl (.inr ⟨x, by simp [hx], e⟩)
  have hw : ∀ k, k < w.heap.size → ¬ FB V (H ++ D) k → w'.heap[k]? = w.heap[k]? := fun k hk hn => hfr.block k hk fun ⟨y, hy, e⟩ => hn (.inr ⟨y, by simp [hy], e⟩)
  refine ⟨_, _, v, ⟨H1, hqr, rfl⟩, rfl, by simp only [Den] at hdv ⊢; exact hdv, ⟨fun x hx => ?_, List.pairwise_append.2 ⟨hok.apart, hap.2.1, fun x hx y hy k hk e => ?_⟩, fun x hx k hk => ?_⟩, ⟨hfr.os, hfr.tape, hfr.output, hfr.size, fun k hk hn => hfr.block k hk fun ⟨y, hy, e⟩ => hn ⟨y, by simp [hy], e⟩⟩, fun x hx k hk => ?_⟩
  · rcases List.mem_append.1 hx with hx | hx
    · exact (hok.ok x hx).hard (hflat x hx)
    · exact (hH.ok x (by simp [hx])).conv hF hw hfr.size fun k hk => hfr.block k (hH.lt x (by simp [hx]) k hk).1 fun ⟨y, hy, e⟩ => hDout x hx k hk (.inr ⟨y, hy, e⟩)
  · rcases hown x hx k hk with ⟨z, hz, e'⟩ | h
    · exact hDout y hy k e (.inr ⟨z, hz, e'⟩)
    · have := (hH.lt y (by simp [hy]) k e).1; omega
  · rcases List.mem_append.1 hx with hx | hx
    · exact hok.lt x hx k hk
    · exact ⟨Nat.lt_of_lt_of_le (hH.lt x (by simp [hx]) k hk).1 hfr.size, (hH.lt x (by simp [hx]) k hk).2⟩
  · rcases List.mem_append.1 hx with hx | hx
    · rcases hown x hx k hk with ⟨y, hy, e⟩ | h
      · exact .inl ⟨y, by simp [hy], e⟩
      · exact .inr h
    · exact .inl ⟨x, by simp [hx], hk⟩
/-- A call that is lent all rows of the call's own, and gives what is known whole. -/
theorem Evl_callL {c : Operand} {args : Array Operand} {tys : Array TypeId} {fs cs : Array Value} (f : FuncId) (fn : Func) (avs : List AV) (res : Value) (ho : o.op = .call { callee := .value c, args := args, argTypes := tys }) (hc : ρ c = .x (.func (.func f) fs cs))
    (hf : P.funcs[f]? = some fn) (hn : fn.name ≠ "runtime.NumGoroutine") (hb : fn.body.isSome = true) (hargs : VwL H (fs.toList.map .x ++ args.toList.map ρ ++ cs.toList.map .x) avs) (hS : Spec P f [] avs fun r H' => r = .x res ∧ H' = []) : Evl P o ρ H (.x res) := by
  intro V a w Kc Qc r hKc
  have hmem : ∀ x ∈ args.toList, x ∈ o.op.operands := fun x hx => by simp [ho, Op.operands, Call.operands]; exact .inr (by simpa using hx)
  have hFF : ∀ k, FB V [] k → V k := fun k hk => by
    rcases hk with hk | ⟨x, hx, _⟩
    · exact hk
    · cases hx
  have hd : DenL (FB V []) w avs (fs.toList ++ args.toList.map a.eval ++ cs.toList) := hargs.den (fun k hk => .inl (hFF k hk)) (fun h hh => ⟨r.hok.ok h hh, fun k e hk => (r.hok.lt h hh k e).2 (hFF k hk)⟩) _ ((DenL.exact.app (denL_ops r _ hmem)).app DenL.exact)
  refine wp_call_of ho (r.evx (by simp [ho, Op.operands, Call.operands]) hc) hf hn hb (vs := (fs.toList ++ args.toList.map a.eval ++ cs.toList).toArray) (by apply Array.toList_inj.1; simp) ?_
  refine (hS V w _ r.vlt ⟨fun x hx => (by cases hx), .nil, fun x hx => (by cases hx)⟩ hd).mono ?_
  rintro e w' ⟨res', H', v, ⟨rfl, rfl⟩, rfl, hdv, _, hfr, _⟩
  have hE : Ext w w' := ⟨hfr.os, hfr.tape, hfr.output, hfr.size, fun k hk => hfr.block k hk fun ⟨y, hy, _⟩ => by cases hy⟩
  exact ⟨v, rfl, hKc v w' hE (by simp only [Den] at hdv ⊢; exact hdv)⟩
theorem DenL.strip {l : List AV} {vs : List Value} (h : DenL F w l vs) : DenL F w (l.map str) vs := by
  refine DenL.of (by simp [h.len]) fun j av u h1 h2 => ?_
  rw [List.getElem?_map] at h1
  cases hj : l[j]? with
  | none => rw [hj] at h1; cases h1
  | some x =>
    rw [hj] at h1; cases h1
    exact (h.get' j x u hj h2).str
theorem Rel.strip (r : Rel V O w0 H T a w) : Rel V O w0 H (T.map str) a w := { r with tmps := r.tmps.strip }
/-- A guarded operation that may turn memory: both ways. -/
theorem awpL_gs {rest : List Oper} {j : Nat} {want : Bool} {t : Nat} (p : Bool) (hg : o.guard = some (j, want)) (hd : (ops[j]?).bind (·.dst) = some t) (hp : gdc want (T.getD t .top) = some p)
    (h1 : p = true → Stp P o (T.map str) H (awpL P ops Q rest)) (h0 : p = false → awpL P ops Q rest (putT T o.dst (.x undef)) H) : awpL P ops Q (o :: rest) T H := fun V O w0 a w r =>
  wpList_step fun K hKc => by
    rw [wanted_of r hg hd hp]
    cases hpb : p with
    | true =>
      simp only [if_true]
      exact h1 hpb V O w0 a w K _ r.strip fun T' H' a' w' hk hr => hKc _ _ (hk V O w0 a' w' hr)
    | false =>
      simp only [Bool.false_eq_true, if_false]
      exact hKc _ _ (h0 hpb V O w0 _ _ (r.put _ (by rw [Den])))
/-- A scope with one label: what lies behind the label, once. -/
theorem awp_scopeK {S : Type} {c rest : Code} (l : Nat) (Tf : S → List AV) (Hf : S → List Hp) (Inv : S → Prop) (m : S → Nat) (hf : findLabel c l = some (.seq .skip rest))
    (pass : ∀ s, Inv s → awp P rest (jumpA l (fun T' H' => ∃ s', m s' < m s ∧ Inv s' ∧ Weak H' T' (Hf s') (Tf s')) Q) (Tf s) (Hf s))
    (first : (∀ s, Inv s → awp P rest (jumpA l (fun T' H' => ∃ s', Inv s' ∧ Weak H' T' (Hf s') (Tf s')) Q) (Tf s) (Hf s)) → awp P c (jumpA l (fun T' H' => ∃ s', Inv s' ∧ Weak H' T' (Hf s') (Tf s')) Q) T H) : awp P (.scope c) Q T H :=
  awp_scopeS l Tf Hf Inv m hf (first fun s hs => awp_mono (pass s hs) fun e T H q => by
    cases e <;> simp only [jumpA] at q ⊢ <;> first
      | exact q
      | (obtain ⟨e, s', -, h1, h2⟩ := q; exact ⟨e, s', h1, h2⟩)) fun s hs => awp_seq (awp_skip (thenA_normal (pass s hs)))
end
end Go.Proofs.Ytdcjhndcklofoaa
