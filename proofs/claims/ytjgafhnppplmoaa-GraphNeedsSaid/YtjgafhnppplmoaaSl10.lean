/- A walk over symbolic memory: regions that draw their order and turn memory; jumps; clear. No program in sight. -/
import Derived.Test.YtjgafhnppplmoaaSl9
import Derived.ScopeJumps
namespace Go.Proofs.Ytjgafhnppplmoaa
open Go.RowKit
set_option linter.unusedSimpArgs false
set_option linter.unusedVariables false
section
variable {P : Program} {V O : Nat → Prop} {w0 w w' : World} {H H' D : List Hp} {T T' : List AV} {a : Act} {o : Oper} {K : List AV → List Hp → Prop} {ρ : Operand → AV} {ops : Array Oper} {Q : Post} {F : Nat → Prop} {listed : Array Bool} {fuel : Nat}
/-- The i-th operation, reckoned by looking. -/
def nthO : List Oper → Nat → Option Oper
  | [], _ => none
  | o :: _, 0 => some o
  | _ :: l, n + 1 => nthO l n
theorem nthO_eq : ∀ (l : List Oper) (i : Nat), nthO l i = l[i]?
  | [], i => by simp [nthO]
  | o :: l, 0 => by simp [nthO]
  | o :: l, i + 1 => by simp [nthO, nthO_eq l i]
/-- The rest of such a region, those listed done. -/
def awpA (P : Program) (ops : Array Oper) (Q : Post) (fuel : Nat) (listed : Array Bool) (T : List AV) (H : List Hp) : Prop :=
  ∀ V O w0 a w, Rel V O w0 H T a w → wpAny P .any ops (lift V O w0 Q) fuel listed a w
theorem awp_drawnA {id : Nat} {l : List Oper} (hm : P.follows .mixedOrders = true) (h : awpA P l.toArray Q l.length (Array.replicate l.length false) T H) : awp P (.region id l.toArray true) Q T H :=
  awp_drawn hm fun V O w0 a w r => by have := h V O w0 a w r; simpa using this
theorem awpA_cong {T' : List AV} {H' : List Hp} (hT : T = T') (hH : H = H') (h : awpA P ops Q fuel listed T' H') : awpA P ops Q fuel listed T H := hT ▸ hH ▸ h
theorem awpA_done (hr : Region.ready .any ops listed = []) (h : Q .normal T H) : awpA P ops Q fuel listed T H := fun V O w0 a w r => wpAny_done hr ⟨T, H, r, h⟩ fuel
/-- What the operation gives hangs on no memory. -/
def WInd (P : Program) (o : Oper) (ρ : Operand → AV) (H : List Hp) (av : AV) : Prop :=
  ∀ (V : Nat → Prop) (a : Act) (w : World), OK V H ρ o a w → ∃ v, (∀ w', (execOp a.eval o).run P w' = .ok (.value v) w') ∧ Den (FB V H) w av v
def takeOk (ops : Array Oper) (listed : Array Bool) (i : Nat) : Bool := Region.noSelect ops && Region.free .any ops listed i && (Region.ready .any ops listed).contains i
theorem awpA_take (i : Nat) {o : Oper} {l : List Oper} (hi : nthO l i = some o) (hg : o.guard = none) (hc : takeOk l.toArray listed i = true) (hpan : ∀ c T H, ¬ Q (.panic c) T H) (av : AV) (h : WInd P o (ev T) H av) (hK : awpA P l.toArray Q fuel (listed.setIfInBounds i true) (putT T o.dst av) H) : awpA P l.toArray Q (fuel + 1) listed T H := by
  have hi : l.toArray[i]? = some o := by rw [List.getElem?_toArray, ← nthO_eq]; exact hi
  intro V O w0 a w r
  unfold takeOk at hc
  simp only [Bool.and_eq_true] at hc
  obtain ⟨v, hv, hd⟩ := h V a w (r.oks o)
  refine wpAny_take hi hc.1.1 hc.1.2 hc.2 (fun c a w ⟨T, H, _, hq⟩ => absurd hq (hpan c T H)) (.inl ⟨by simp [Region.wanted, hg], hv⟩) (hK V O w0 _ w (r.put _ hd))
theorem wpOp_of_stp {i : Nat} (hi : ops[i]? = some o) (hg : o.guard = none) (h : Stp P o T H K) (V O : Nat → Prop) (w0 : World) (r : Rel V O w0 H T a w) (Kc : Act → World → Prop) (Qc : Exit → Act → World → Prop) (hK : ∀ T' H' a' w', K T' H' → Rel V O w0 H' T' a' w' → Kc a' w') : wpOp P ops Qc i Kc a w := by
  unfold wpOp
  simp only [hi]
  rw [if_pos (by simp [Region.wanted, hg])]
  exact .inl (h V O w0 a w Kc Qc r hK)
/-- One operation may come up. -/
theorem awpA_1 (i : Nat) {o : Oper} {l : List Oper} (hr : Region.ready .any l.toArray listed = [i]) (hi : nthO l i = some o) (hg : o.guard = none) (h : Stp P o T H (awpA P l.toArray Q fuel (listed.setIfInBounds i true))) : awpA P l.toArray Q (fuel + 1) listed T H := fun V O w0 a w r =>
  wpAny_all hr (by simp) fun j hj => by
    rw [List.mem_singleton] at hj; subst hj
    have hi : l.toArray[j]? = some o := by rw [List.getElem?_toArray, ← nthO_eq]; exact hi
    exact wpOp_of_stp hi hg h V O w0 r _ _ fun T' H' a' w' hk hr => hk V O w0 a' w' hr
/-- One of two may come up. -/
theorem awpA_2 (i j : Nat) {o q : Oper} {l : List Oper} (hr : Region.ready .any l.toArray listed = [i, j]) (hi : nthO l i = some o) (hg : o.guard = none) (hj : nthO l j = some q) (hgj : q.guard = none) (h : Stp P o T H (awpA P l.toArray Q fuel (listed.setIfInBounds i true))) (h2 : Stp P q T H (awpA P l.toArray Q fuel (listed.setIfInBounds j true))) : awpA P l.toArray Q (fuel + 1) listed T H := fun V O w0 a w r =>
  wpAny_all hr (by simp) fun k hk => by
    have hi : l.toArray[i]? = some o := by rw [List.getElem?_toArray, ← nthO_eq]; exact hi
    have hj : l.toArray[j]? = some q := by rw [List.getElem?_toArray, ← nthO_eq]; exact hj
    rcases List.mem_cons.1 hk with rfl | hk
    · exact wpOp_of_stp hi hg h V O w0 r _ _ fun T' H' a' w' hk hr => hk V O w0 a' w' hr
    · rw [List.mem_singleton] at hk; subst hk
      exact wpOp_of_stp hj hgj h2 V O w0 r _ _ fun T' H' a' w' hk hr => hk V O w0 a' w' hr
theorem WInd_mv (x : Operand) (ho : o.op = .move x) : WInd P o ρ H (ρ x) := fun V a w r => ⟨a.eval x, fun w' => by simp [execOp, ho], r.ops x (by simp [ho, Op.operands])⟩
theorem WInd_as (x : Operand) (ho : o.op = .assign x) : WInd P o ρ H (ρ x) := fun V a w r => ⟨a.eval x, fun w' => by simp [execOp, ho], r.ops x (by simp [ho, Op.operands])⟩
theorem WInd_x (v : Value) (hs : ∀ cs b, o.op ≠ .select cs b) (hx : (o.op.operands.toList.all fun x => (ρ x).ex) = true)
    (hrun : ∀ w, (execOp (fun x => (ρ x).val) o).run P w = .ok (.value v) w) : WInd P o ρ H (.x v) := fun V a w r => ⟨v, fun w' => by
  have he : execOp a.eval o = execOp (fun x => (ρ x).val) o := execOp_congr o hs fun x h => by
    have hex := List.all_eq_true.1 hx x (by simpa using h)
    have hd := r.ops x h
    cases hv : ρ x with
    | x v => rw [hv, Den] at hd; rw [hd]; rfl
    | _ => rw [hv] at hex; cases hex
  rw [he]; exact hrun w', by rw [Den]⟩
theorem WInd_nil (x : Operand) (b off : Nat) (ho : o.op = .nilCheck x) (hx : ρ x = .x (.pointer (some ⟨b, off, none⟩))) : WInd P o ρ H (.x (.pointer (some ⟨b, off, none⟩))) := fun V a w r =>
  ⟨.pointer (some ⟨b, off, none⟩), fun w' => by simp [execOp, ho, r.evx (by simp [ho, Op.operands]) hx], by rw [Den]⟩
theorem WInd_field_x (s : TypeId) (x : Operand) (f k b off : Nat) (ho : o.op = .fieldAddr s x f) (hx : ρ x = .x (.pointer (some ⟨b, off, none⟩))) (hk : fldT P s f = some k) : WInd P o ρ H (.x (.pointer (some ⟨b, off + k, none⟩))) := fun V a w r =>
  ⟨.pointer (some ⟨b, off + k, none⟩), fun w' => by simp [execOp, ho, r.evx (by simp [ho, Op.operands]) hx, run_fieldAt s f k hk], by rw [Den]⟩
theorem WInd_index_own (t e : TypeId) (x y : Operand) (size b off n cap : Nat) (k : IntKind) (i : Int) (j : Nat) (ho : o.op = .indexAddr t x y) (hx : ρ x = .x (.slice (some ⟨b, off, none⟩) n cap)) (hy : ρ y = .x (.int k i)) (ht : elT P t = some (e, size)) (hi : i = (j : Int)) (h1 : j < n) : WInd P o ρ H (.x (.pointer (some ⟨b, off + j * size, none⟩))) := by
  subst hi
  exact fun V a w r => ⟨.pointer (some ⟨b, off + j * size, none⟩), fun w' => by simp [execOp, ho, r.evx (x := x) (by simp [ho, Op.operands]) hx, r.evx (x := y) (by simp [ho, Op.operands]) hy, run_indexAt t e size ht b off n cap k j (by omega) (by omega)], by rw [Den]⟩
theorem WInd_k (n : Nat) {av : AV} (hk : opk o.op = n) (h : WInd P o ρ H av) : WInd P o ρ H av := h

/-- A guard that says no. -/
theorem awpL_gf {rest : List Oper} {j : Nat} {want : Bool} {t : Nat} {T' : List AV} (hg : o.guard = some (j, want)) (hd : (ops[j]?).bind (·.dst) = some t) (hp : gdc want (T.getD t .top) = some false) (hT : putT T o.dst (.x undef) = T') (hK : awpL P ops Q rest T' H) : awpL P ops Q (o :: rest) T H := fun V O w0 a w r =>
  wpList_step fun K hKc => by
    rw [wanted_of r hg hd hp]
    simp only [Bool.false_eq_true, if_false]
    exact hKc _ _ ((hT ▸ hK) V O w0 _ _ (r.put _ (by rw [Den])))
theorem dr_gf {rest : List Oper} {fin : List AV → Prop} {j : Nat} {want : Bool} {t : Nat} {T' : List AV} (hg : o.guard = some (j, want)) (hd : (ops[j]?).bind (·.dst) = some t) (hp : gdc want (T.getD t .top) = some false) (hT : putT T o.dst (.g false .top) = T') (hK : dr P H ops rest T' fin) : dr P H ops (o :: rest) T fin :=
  dr_g false .top hg hd hp (fun h => by cases h) (hT ▸ hK)
/-! ### Jumps -/

def jumpA (l : Nat) (J : List AV → List Hp → Prop) (Q : Post) : Post
  | .goto l', T, H => l' = l ∧ J T H
  | e, T, H => Q e T H
theorem jumpA_normal {l : Nat} {J : List AV → List Hp → Prop} (h : Q .normal T H) : jumpA l J Q .normal T H := h
theorem jumpA_exit {l id : Nat} {J : List AV → List Hp → Prop} (h : Q (.exit id) T H) : jumpA l J Q (.exit id) T H := h
theorem jumpA_ret {l : Nat} {J : List AV → List Hp → Prop} (h : Q .ret T H) : jumpA l J Q .ret T H := h
theorem jumpA_goto {l : Nat} {J : List AV → List Hp → Prop} (h : J T H) : jumpA l J Q (.goto l) T H := ⟨rfl, h⟩
theorem awp_label {l : Nat} (h : Q .normal T H) : awp P (.label l) Q T H := fun V O w0 a w r => wp_label ⟨T, H, r, h⟩
theorem awp_goto {l : Nat} (h : Q (.goto l) T H) : awp P (.goto l) Q T H := fun V O w0 a w r => wp_goto ⟨T, H, r, h⟩
/-- A piece of code in which the run jumps back to one label. -/
theorem awp_scopeS {S : Type} {c rest : Code} (l : Nat) (Tf : S → List AV) (Hf : S → List Hp) (Inv : S → Prop) (m : S → Nat) (hf : findLabel c l = some rest)
    (first : awp P c (jumpA l (fun T' H' => ∃ s', Inv s' ∧ Weak H' T' (Hf s') (Tf s')) Q) T H)
    (pass : ∀ s, Inv s → awp P rest (jumpA l (fun T' H' => ∃ s', m s' < m s ∧ Inv s' ∧ Weak H' T' (Hf s') (Tf s')) Q) (Tf s) (Hf s)) : awp P (.scope c) Q T H := by
  intro V O w0 a w r b k cs
  have hg : gotoIn l (.inScope c :: k) = some (.code rest :: .inScope c :: k) := by simp [gotoIn, hf]
  have key : ∀ n s a w, m s = n → Inv s → Rel V O w0 (Hf s) (Tf s) a w → ∃ e a' w', lift V O w0 Q e a' w' ∧ Arrives P (lone (b.at a (.code rest :: .inScope c :: k)) cs w) b k cs e a' w' := by
    intro n
    induction n using Nat.strongRecOn with
    | _ n ih =>
      intro s a w hn hI hr
      obtain ⟨e, a₁, w₁, ⟨T1, H1, r1, q1⟩, harr⟩ := pass s hI V O w0 a w hr b (.inScope c :: k) cs
      cases e with
      | normal => exact ⟨.normal, a₁, w₁, ⟨T1, H1, r1, q1⟩, Steps.trans harr (.one step_inScope)⟩
      | exit id => exact ⟨.exit id, a₁, w₁, ⟨T1, H1, r1, q1⟩, fun k' hk => harr k' (by simp [exitTo, hk])⟩
      | goto l' =>
        obtain ⟨rfl, s', hlt, hI', hw⟩ := q1
        obtain ⟨e₂, a₂, w₂, hq₂, harr₂⟩ := ih (m s') (by omega) s' a₁ w₁ rfl hI' (r1.weaken hw)
        exact ⟨e₂, a₂, w₂, hq₂, .of_steps (harr _ hg) harr₂⟩
      | ret => exact ⟨_, a₁, w₁, ⟨T1, H1, r1, q1⟩, harr⟩
      | panic ch => exact ⟨_, a₁, w₁, ⟨T1, H1, r1, q1⟩, harr⟩
      | outgrown => exact ⟨_, a₁, w₁, ⟨T1, H1, r1, q1⟩, harr⟩
  obtain ⟨e, a₁, w₁, ⟨T1, H1, r1, q1⟩, harr⟩ := first V O w0 a w r b (.inScope c :: k) cs
  cases e with
  | normal => exact ⟨.normal, a₁, w₁, ⟨T1, H1, r1, q1⟩, .head step_scope (Steps.trans harr (.one step_inScope))⟩
  | exit id => exact ⟨.exit id, a₁, w₁, ⟨T1, H1, r1, q1⟩, fun k' hk => .head step_scope (harr k' (by simp [exitTo, hk]))⟩
  | goto l' =>
    obtain ⟨rfl, s', hI', hw⟩ := q1
    obtain ⟨e₂, a₂, w₂, hq₂, harr₂⟩ := key _ s' a₁ w₁ rfl hI' (r1.weaken hw)
    exact ⟨e₂, a₂, w₂, hq₂, .of_steps (.head step_scope (harr _ hg)) harr₂⟩
  | ret => exact ⟨_, a₁, w₁, ⟨T1, H1, r1, q1⟩, .of_steps (.one step_scope) harr⟩
  | panic ch => exact ⟨_, a₁, w₁, ⟨T1, H1, r1, q1⟩, .of_steps (.one step_scope) harr⟩
  | outgrown => exact ⟨_, a₁, w₁, ⟨T1, H1, r1, q1⟩, .of_steps (.one step_scope) harr⟩
end
end Go.Proofs.Ytjgafhnppplmoaa
