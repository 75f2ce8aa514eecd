import Derived.Test.YtfaljkenmbbbaaaDoorW0
import Derived.Lib.ConvBytes
/- A walk over symbolic memory: the rules of code, and of operations that read no memory. No program in sight. -/
namespace Go.Proofs.YtfaljkenmbbbaaaDoor
open Go.RowKit
set_option linter.unusedSimpArgs false
set_option linter.unusedVariables false
/-- What is known where the condition holds for sure. -/
def str : AV → AV
  | .g true v => v
  | v => v
def ev (T : List AV) : Operand → AV
  | .tmp t => T.getD t .top
  | .const v => .x v
  | .global g => .x (.pointer (some ⟨g, 0, none⟩))
  | .func f => .x (.func (.func f) #[] #[])
def AV.val : AV → Value | .x v => v | _ => undef
def AV.ex : AV → Bool | .x _ => true | _ => false
section
variable {P : Program} {V O : Nat → Prop} {w0 w w' : World} {H H' : List Hp} {T : List AV} {a : Act}
theorem Den.str {F : Nat → Prop} {av : AV} {v : Value} (h : Den F w av v) : Den F w (str av) v := by
  unfold Go.Proofs.YtfaljkenmbbbaaaDoor.str
  split
  · rw [Den] at h; exact h.1 rfl
  · exact h
theorem Rel.ev (h : Rel V O w0 H T a w) (o : Operand) : Den (FB V H) w (ev T o) (a.eval o) := by
  cases o with
  | tmp t =>
    simp only [Go.Proofs.YtfaljkenmbbbaaaDoor.ev, Act.eval]
    by_cases ht : t < T.length
    · obtain ⟨u, hu, hd⟩ := h.tmps.get t T[t] (by simp [ht])
      rw [Array.getElem?_toList] at hu
      simp [hu, List.getD, ht]; exact hd
    · simp [List.getD, List.getElem?_eq_none (Nat.le_of_not_lt ht)]; rw [Den]; trivial
  | const v => simp [Go.Proofs.YtfaljkenmbbbaaaDoor.ev, Act.eval, Den]
  | global g => simp [Go.Proofs.YtfaljkenmbbbaaaDoor.ev, Act.eval, Den]
  | func f => simp [Go.Proofs.YtfaljkenmbbbaaaDoor.ev, Act.eval, Den]
theorem Rel.evx (h : Rel V O w0 H T a w) {o : Operand} {v : Value} (he : Go.Proofs.YtfaljkenmbbbaaaDoor.ev T o = .x v) : a.eval o = v := by
  have := h.ev o
  rw [he, Den] at this; exact this
theorem Rel.evv (h : Rel V O w0 H T a w) {o : Operand} (he : (Go.Proofs.YtfaljkenmbbbaaaDoor.ev T o).ex = true) : a.eval o = (Go.Proofs.YtfaljkenmbbbaaaDoor.ev T o).val := by
  cases hv : Go.Proofs.YtfaljkenmbbbaaaDoor.ev T o with
  | x v => rw [h.evx hv]; rfl
  | _ => rw [hv] at he; cases he

/-! ### Code -/

abbrev Post := Exit → List AV → List Hp → Prop
def lift (V O : Nat → Prop) (w0 : World) (Q : Post) : Exit → Act → World → Prop := fun e a w => ∃ T H, Rel V O w0 H T a w ∧ Q e T H
/-- Code c, from what is known, comes to an exit of which Q holds. -/
def awp (P : Program) (c : Code) (Q : Post) (T : List AV) (H : List Hp) : Prop :=
  ∀ V O w0 a w, Rel V O w0 H T a w → c.wp P (lift V O w0 Q) a w
def awpL (P : Program) (ops : Array Oper) (Q : Post) (rest : List Oper) (T : List AV) (H : List Hp) : Prop :=
  ∀ V O w0 a w, Rel V O w0 H T a w → wpList P ops (lift V O w0 Q) rest a w
def thenA (K : List AV → List Hp → Prop) (Q : Post) : Post
  | .normal, T, H => K T H
  | e, T, H => Q e T H
def inBlockA (id : Nat) (Q : Post) : Post
  | .exit id', T, H => if id' = id then Q .normal T H else Q (.exit id') T H
  | e, T, H => Q e T H
theorem awp_mono {c : Code} {Q Q' : Post} (h : awp P c Q T H) (hq : ∀ e T H, Q e T H → Q' e T H) : awp P c Q' T H :=
  fun V O w0 a w r => wp_mono (h V O w0 a w r) fun e a w ⟨T, H, r, q⟩ => ⟨T, H, r, hq _ _ _ q⟩
theorem awp_skip {Q : Post} (h : Q .normal T H) : awp P .skip Q T H := fun V O w0 a w r => wp_skip ⟨T, H, r, h⟩
theorem awp_exit {Q : Post} {id : Nat} (h : Q (.exit id) T H) : awp P (.exit id) Q T H := fun V O w0 a w r => wp_exit ⟨T, H, r, h⟩
theorem awp_ret {Q : Post} (h : Q .ret T H) : awp P .ret Q T H := fun V O w0 a w r => wp_ret ⟨T, H, r, h⟩
theorem awp_seq {x y : Code} {Q : Post} (h : awp P x (thenA (awp P y Q) Q) T H) : awp P (.seq x y) Q T H := fun V O w0 a w r =>
  wp_seq (wp_mono (h V O w0 a w r) fun e a w ⟨T, H, r, q⟩ => by
    cases e with
    | normal => exact q V O w0 a w r
    | _ => exact ⟨T, H, r, q⟩)
theorem awp_cond {c : Operand} {x y : Code} {Q : Post} (b : Bool) (hc : Go.Proofs.YtfaljkenmbbbaaaDoor.ev T c = .x (.bool b)) (h1 : b = true → awp P x Q T H) (h2 : b = false → awp P y Q T H) : awp P (.cond c x y) Q T H :=
  fun V O w0 a w r => wp_cond_split (r.evx hc) (fun hb => h1 hb V O w0 a w r) (fun hb => h2 hb V O w0 a w r)
theorem awp_block {id : Nat} {c : Code} {Q : Post} (h : awp P c (inBlockA id Q) T H) : awp P (.block id c) Q T H := fun V O w0 a w r =>
  wp_block (wp_mono (h V O w0 a w r) fun e a w ⟨T, H, r, q⟩ => by
    cases e with
    | exit id' =>
      simp only [inBlockA] at q
      simp only [Exit.inBlock]
      split
      · rename_i he; rw [if_pos he] at q; exact ⟨T, H, r, q⟩
      · rename_i he; rw [if_neg he] at q; exact ⟨T, H, r, q⟩
    | _ => exact ⟨T, H, r, q⟩)
theorem awp_loop {c : Code} {Q : Post} (I : List AV → List Hp → Prop) (μ : List AV → List Hp → Nat) (h0 : I T H)
    (round : ∀ T H, I T H → awp P c (thenA (fun T' H' => I T' H' ∧ μ T' H' < μ T H) Q) T H) : awp P (.loop c) Q T H := by
  intro V O w0 a w r
  -- the number of a state: the least measure of what may be known of it
  classical
  have key : ∀ n T H a w, μ T H = n → I T H → Rel V O w0 H T a w → ∀ (b : Frame) (k : List Item) (cs : List Frame),
      ∃ e a' w', lift V O w0 Q e a' w' ∧ Arrives P (lone (b.at a (.code c :: .inLoop c :: k)) cs w) b k cs e a' w' := by
    intro n
    induction n using Nat.strongRecOn with
    | _ n ih =>
      intro T H a w hn hI hr b k cs
      obtain ⟨e, a₁, w₁, ⟨T1, H1, r1, q1⟩, harr⟩ := round T H hI V O w0 a w hr b (.inLoop c :: k) cs
      cases e with
      | normal =>
        obtain ⟨hI₁, hlt⟩ := q1
        obtain ⟨e₂, a₂, w₂, hq₂, harr₂⟩ := ih (μ T1 H1) (hn ▸ hlt) T1 H1 a₁ w₁ rfl hI₁ r1 b k cs
        exact ⟨e₂, a₂, w₂, hq₂, .of_steps (Steps.trans harr (.one step_inLoop)) harr₂⟩
      | exit id => exact ⟨_, a₁, w₁, ⟨T1, H1, r1, q1⟩, .pass (x := .inLoop c) rfl (fun _ _ => .inl (by simp)) harr⟩
      | goto l => exact ⟨_, a₁, w₁, ⟨T1, H1, r1, q1⟩, .pass (x := .inLoop c) rfl (fun _ _ => .inl (by simp)) harr⟩
      | ret => exact ⟨_, a₁, w₁, ⟨T1, H1, r1, q1⟩, .pass (x := .inLoop c) rfl (fun _ _ => .inl (by simp)) harr⟩
      | panic ch => exact ⟨_, a₁, w₁, ⟨T1, H1, r1, q1⟩, .pass (x := .inLoop c) rfl (fun _ _ => .inl (by simp)) harr⟩
      | outgrown => exact ⟨_, a₁, w₁, ⟨T1, H1, r1, q1⟩, .pass (x := .inLoop c) rfl (fun _ _ => .inl (by simp)) harr⟩
  intro b k cs
  obtain ⟨e, a', w', hq, harr⟩ := key _ T H a w rfl h0 r b k cs
  exact ⟨e, a', w', hq, .of_steps (.one step_loop) harr⟩
theorem awp_region {id : Nat} {l : List Oper} {Q : Post} (h : awpL P l.toArray Q l T H) : awp P (.region id l.toArray false) Q T H :=
  fun V O w0 a w r => wp_region_lit (h V O w0 a w r)
theorem awp_drawn {id : Nat} {ops : Array Oper} {Q : Post} (hm : P.follows .mixedOrders = true)
    (h : ∀ V O w0 a w, Rel V O w0 H T a w → wpAny P .any ops (lift V O w0 Q) ops.size (Array.replicate ops.size false) a w) : awp P (.region id ops true) Q T H :=
  fun V O w0 a w r => wp_region_any hm (h V O w0 a w.drew (r.quiet ((Below.refl _ _).drew)))

/-! ### Operations -/

/-- The operation o leads from (T, H) to some (T', H') of which K holds. -/
def Stp (P : Program) (o : Oper) (T : List AV) (H : List Hp) (K : List AV → List Hp → Prop) : Prop :=
  ∀ (V O : Nat → Prop) (w0 : World) (a : Act) (w : World) (Kc : Act → World → Prop) (Q : Exit → Act → World → Prop), Rel V O w0 H T a w →
    (∀ T' H' a' w', K T' H' → Rel V O w0 H' T' a' w' → Kc a' w') → o.wp P a w Kc Q
variable {ops : Array Oper} {rest : List Oper} {o : Oper} {Q : Post} {K : List AV → List Hp → Prop}
theorem awpL_nil (h : Q .normal T H) : awpL P ops Q [] T H := fun V O w0 a w r => wpList_nil ⟨T, H, r, h⟩
theorem awpL_cons (hg : o.guard = none) (h : Stp P o T H (awpL P ops Q rest)) : awpL P ops Q (o :: rest) T H := fun V O w0 a w r =>
  wpList_plain hg fun K hK => h V O w0 a w K _ r fun T' H' a' w' hk hr => hK _ _ (hk V O w0 a' w' hr)
/-- What the guard's slot says: is the operation wanted. -/
def gdc (want : Bool) : AV → Option Bool
  | .x (.bool b) => match want with | true => some b | false => some (!b)
  | .g p (.x (.bool b)) => match want with | true => some (p && b) | false => some (p && !b)
  | _ => none
theorem wanted_of {j t : Nat} {want p : Bool} (r : Rel V O w0 H T a w) (hg : o.guard = some (j, want)) (hd : (ops[j]?).bind (·.dst) = some t) (hp : gdc want (T.getD t .top) = some p) : Region.wanted o (yielded ops a.tmps) = p := by
  have hden : Den (FB V H) w (T.getD t .top) (a.tmps.getD t undef) := by
    by_cases ht : t < T.length
    · obtain ⟨u, hu, hd⟩ := r.tmps.get t T[t] (by simp [ht])
      rw [Array.getElem?_toList] at hu
      simp [hu, List.getD, ht]; exact hd
    · simp [List.getD, List.getElem?_eq_none (Nat.le_of_not_lt ht), gdc] at hp
  have hsome : ∀ u, a.tmps.getD t undef = u → u ≠ undef → a.tmps[t]? = some u := by
    intro u hu hne
    cases hv : a.tmps[t]? with
    | none => simp [hv] at hu; exact absurd hu.symm hne
    | some x => simp [hv] at hu; rw [hu]
  unfold Region.wanted
  rw [hg]
  simp only [yielded, hd]
  cases hav : T.getD t .top with
  | x v =>
    rw [hav] at hp hden
    rw [Den] at hden
    cases v <;> (try (simp [gdc] at hp; done))
    rename_i b
    have := hsome _ hden (by simp [undef])
    simp [this]
    cases b <;> cases want <;> simp [gdc] at hp <;> subst hp <;> rfl
  | g q v =>
    rw [hav] at hp hden
    cases v <;> (try (simp [gdc] at hp; done))
    rename_i v
    cases v <;> (try (simp [gdc] at hp; done))
    rename_i b
    rw [Den] at hden
    cases q with
    | true =>
      have hb := hden.1 rfl
      rw [Den] at hb
      have := hsome _ hb (by simp [undef])
      simp [this]
      cases b <;> cases want <;> simp [gdc] at hp <;> subst hp <;> rfl
    | false =>
      have hb := hden.2 rfl
      have hpf : p = false := by cases want <;> simp [gdc] at hp <;> (first | exact hp | exact hp.symm)
      subst hpf
      cases hv : a.tmps[t]? with
      | none => simp [hv]
      | some x =>
        simp [hv] at hb
        subst hb
        simp [undef, hv]
  | _ => rw [hav] at hp; simp [gdc] at hp
/-- The operands of o are known as ρ says. -/
structure OK (V : Nat → Prop) (H : List Hp) (ρ : Operand → AV) (o : Oper) (a : Act) (w : World) : Prop where
  hok : HOk V w H
  ops : ∀ x ∈ o.op.operands, Den (FB V H) w (ρ x) (a.eval x)
  vlt : ∀ k, V k → k < w.heap.size
  gw : Gw w
theorem OK.evx {ρ : Operand → AV} (h : OK V H ρ o a w) {x : Operand} {v : Value} (hm : x ∈ o.op.operands) (he : ρ x = .x v) : a.eval x = v := by
  have := h.ops x hm
  rw [he, Den] at this; exact this
theorem OK.hp {ρ : Operand → AV} (h : OK V H ρ o a w) (i : Nat) (x : Hp) (hi : H[i]? = some x) : HpOk (FB V H) w x := h.hok.ok x (List.mem_of_getElem? hi)
theorem Rel.oks (h : Rel V O w0 H T a w) (o : Oper) : OK V H (Go.Proofs.YtfaljkenmbbbaaaDoor.ev T) o a w := ⟨h.hok, fun x _ => h.ev x, fun k hk => Nat.lt_of_lt_of_le (h.vlt k hk) h.fr.size, h.gw⟩
def evs (T : List AV) : Operand → AV := fun x => str (Go.Proofs.YtfaljkenmbbbaaaDoor.ev T x)
theorem OK.strip {ρ : Operand → AV} (h : OK V H ρ o a w) : OK V H (fun x => str (ρ x)) o a w := ⟨h.hok, fun x hx => (h.ops x hx).str, h.vlt, h.gw⟩
theorem Rel.oks' (h : Rel V O w0 H T a w) (o : Oper) : OK V H (evs T) o a w := (h.oks o).strip
/-- The operation o turns no memory, and gives what is known as av. -/
def Evl (P : Program) (o : Oper) (ρ : Operand → AV) (H : List Hp) (av : AV) : Prop :=
  ∀ (V : Nat → Prop) (a : Act) (w : World) (Kc : Act → World → Prop) (Q : Exit → Act → World → Prop), OK V H ρ o a w →
    (∀ v w', Ext w w' → Den (FB V H) w' av v → Kc (a.put o.dst v) w') → o.wp P a w Kc Q
theorem awpL_evl (hg : o.guard = none) (av : AV) (h : Evl P o (Go.Proofs.YtfaljkenmbbbaaaDoor.ev T) H av) (hK : awpL P ops Q rest (putT T o.dst av) H) : awpL P ops Q (o :: rest) T H := fun V O w0 a w r =>
  wpList_plain hg fun K hKc => h V a w K _ (r.oks o) fun v w' he hd => hKc _ _ (hK V O w0 _ _ ((r.quiet he).put _ hd))
theorem awpL_g {j : Nat} {want : Bool} {t : Nat} (p : Bool) (av : AV) (hg : o.guard = some (j, want)) (hd : (ops[j]?).bind (·.dst) = some t) (hp : gdc want (T.getD t .top) = some p)
    (h : p = true → Evl P o (evs T) H av) (hK : awpL P ops Q rest (putT T o.dst (.g p av)) H) : awpL P ops Q (o :: rest) T H := fun V O w0 a w r =>
  wpList_step fun K hKc => by
    rw [wanted_of r hg hd hp]
    cases hpb : p with
    | true =>
      simp only [if_true]
      subst hpb
      exact h rfl V a w K _ (r.oks' o) fun v w' he hd => hKc _ _ (hK V O w0 _ _ ((r.quiet he).put _ (by rw [Den]; exact ⟨fun _ => hd, fun h => by cases h⟩)))
    | false =>
      simp only [Bool.false_eq_true, if_false]
      subst hpb
      exact hKc _ _ (hK V O w0 _ _ (r.put _ (by rw [Den]; exact ⟨fun h => (by cases h), fun _ => rfl⟩)))
theorem Stp.mono {K' : List AV → List Hp → Prop} (h : Stp P o T H K) (hk : ∀ T H, K T H → K' T H) : Stp P o T H K' :=
  fun V O w0 a w Kc Q r hK => h V O w0 a w Kc Q r fun T' H' a' w' k r' => hK T' H' a' w' (hk _ _ k) r'
theorem Stp_evl (av : AV) (h : Evl P o (Go.Proofs.YtfaljkenmbbbaaaDoor.ev T) H av) (hK : K (putT T o.dst av) H) : Stp P o T H K := fun V O w0 a w Kc Q r hKc =>
  h V a w Kc Q (r.oks o) fun v w' he hd => hKc _ _ _ _ hK ((r.quiet he).put _ hd)
variable {ρ : Operand → AV}
/-- An operation on values that are known whole, and that turns no memory. -/
theorem Evl_x (v : Value) (hs : ∀ cs b, o.op ≠ .select cs b) (hx : (o.op.operands.toList.all fun x => (ρ x).ex) = true)
    (hrun : ∀ w, (execOp (fun x => (ρ x).val) o).run P w = .ok (.value v) w) : Evl P o ρ H (.x v) := by
  intro V a w Kc Q r hKc
  have he : execOp a.eval o = execOp (fun x => (ρ x).val) o := execOp_congr o hs fun x h => by
    have hex := List.all_eq_true.1 hx x (by simpa using h)
    have hd := r.ops x h
    cases hv : ρ x with
    | x v => rw [hv, Den] at hd; rw [hd]; rfl
    | _ => rw [hv] at hex; cases hex
  unfold Oper.wp
  rw [he, hrun w]
  exact hKc _ _ (Below.refl _ _) (by rw [Den])
/-- A move of whatever. -/
theorem Evl_mv (x : Operand) (ho : o.op = .move x) : Evl P o ρ H (ρ x) := by
  intro V a w Kc Q r hKc
  unfold Oper.wp execOp
  simp only [ho, Sem.run_pure, Oper.upon]; exact hKc _ _ (Below.refl _ _) (r.ops x (by simp [ho, Op.operands]))
theorem Evl_as (x : Operand) (ho : o.op = .assign x) : Evl P o ρ H (ρ x) := by
  intro V a w Kc Q r hKc
  unfold Oper.wp execOp
  simp only [ho, Sem.run_pure, Oper.upon]; exact hKc _ _ (Below.refl _ _) (r.ops x (by simp [ho, Op.operands]))
/-- A part of a tuple. -/
theorem Evl_extract (x : Operand) (i : Nat) (l : List AV) (av : AV) (ho : o.op = .extract x i) (hx : ρ x = .tup l) (hi : l[i]? = some av) : Evl P o ρ H av := by
  intro V a w Kc Q r hKc
  have hd := r.ops x (by simp [ho, Op.operands])
  rw [hx, Den] at hd
  obtain ⟨vals, hv, hl⟩ := hd
  obtain ⟨u, hu, hdu⟩ := hl.get i av hi
  unfold Oper.wp execOp
  simp only [ho, hv, Instr.extract, Sem.run_bind, List.getElem?_toArray, hu, Sem.run_pure, Result.andThen_ok, Oper.upon]
  exact hKc _ _ (Below.refl _ _) hdu
/-- Of two, by a bool. -/
theorem Evl_pick (c x y : Operand) (b : Bool) (av : AV) (ho : o.op = .pick c x y) (hc : ρ c = .x (.bool b)) (h1 : b = true → ∀ V (w : World) v, Den (FB V H) w (ρ x) v → Den (FB V H) w av v) (h2 : b = false → ∀ V (w : World) v, Den (FB V H) w (ρ y) v → Den (FB V H) w av v) : Evl P o ρ H av := by
  intro V a w Kc Q r hKc
  have hd := r.evx (x := c) (by simp [ho, Op.operands]) hc
  unfold Oper.wp execOp
  simp only [ho, hd, asBool, Sem.run_bind, Sem.run_pure, Result.andThen_ok, Oper.upon]
  refine hKc _ _ (Below.refl _ _) ?_
  cases b
  · exact h2 rfl _ _ _ (r.ops y (by simp [ho, Op.operands]))
  · exact h1 rfl _ _ _ (r.ops x (by simp [ho, Op.operands]))
/-- 'q && r'. -/
theorem Evl_and (c x y : Operand) (q s : Bool) (ho : o.op = .pick c x y) (hc : ρ c = .x (.bool q)) (hx : ρ x = .g q (.x (.bool s))) (hy : ρ y = .x (.bool false)) : Evl P o ρ H (.x (.bool (q && s))) := by
  refine Evl_pick c x y q _ ho hc (fun hq V w v h => ?_) (fun hq V w v h => ?_)
  · rw [hx, Den] at h
    have := h.1 hq
    rw [Den] at this ⊢
    rw [this, hq]; rfl
  · rw [hy, Den] at h; rw [hq, Den, h]; rfl
/-- 'q || r'. -/
theorem Evl_or (c x y : Operand) (q s : Bool) (ho : o.op = .pick c x y) (hc : ρ c = .x (.bool q)) (hx : ρ y = .g (!q) (.x (.bool s))) (hy : ρ x = .x (.bool true)) : Evl P o ρ H (.x (.bool (q || s))) := by
  refine Evl_pick c x y q _ ho hc (fun hq V w v h => ?_) (fun hq V w v h => ?_)
  · rw [hy, Den] at h; rw [hq, Den, h]; rfl
  · rw [hx, Den] at h
    have := h.1 (by rw [hq]; rfl)
    rw [Den] at this ⊢
    rw [this, hq]; rfl
theorem Evl_and' (c x y : Operand) (q s : Bool) (ho : o.op = .pick c x y) (hc : ρ c = .x (.bool q)) (hx : ρ x = str (.g q (.x (.bool s)))) (hy : ρ y = .x (.bool false)) : Evl P o ρ H (.x (.bool (q && s))) := by
  refine Evl_pick c x y q _ ho hc (fun hq V w v h => ?_) (fun hq V w v h => ?_)
  · subst hq
    rw [hx] at h
    simp only [str, Den] at h ⊢
    rw [h]; rfl
  · rw [hy, Den] at h; rw [hq, Den, h]; rfl
theorem Evl_or' (c x y : Operand) (q s : Bool) (ho : o.op = .pick c x y) (hc : ρ c = .x (.bool q)) (hx : ρ y = str (.g (!q) (.x (.bool s)))) (hy : ρ x = .x (.bool true)) : Evl P o ρ H (.x (.bool (q || s))) := by
  refine Evl_pick c x y q _ ho hc (fun hq V w v h => ?_) (fun hq V w v h => ?_)
  · rw [hy, Den] at h; rw [hq, Den, h]; rfl
  · subst hq
    rw [hx] at h
    simp only [Bool.not_false, str, Den] at h ⊢
    rw [h]; rfl
theorem Evl_pickf (c x y : Operand) (ho : o.op = .pick c x y) (hc : ρ c = .x (.bool false)) : Evl P o ρ H (str (ρ y)) := Evl_pick c x y false _ ho hc (fun h => by cases h) fun _ _ _ _ h => h.str
theorem Evl_pickt (c x y : Operand) (ho : o.op = .pick c x y) (hc : ρ c = .x (.bool true)) : Evl P o ρ H (str (ρ x)) := Evl_pick c x y true _ ho hc (fun _ _ _ _ h => h.str) (fun h => by cases h)
end
end Go.Proofs.YtfaljkenmbbbaaaDoor
/- A walk over symbolic memory: the rules of memory. No program in sight. -/
namespace Go.Proofs.YtfaljkenmbbbaaaDoor
open Go.RowKit
set_option linter.unusedSimpArgs false
set_option linter.unusedVariables false
def AV.one : AV → Bool
  | .x v => v.oneCell'
  | .sq .. => true
  | .at_ .. => true
  | .ifc .. => true
  | _ => false
/-- The cells of a value. -/
def AV.cells : AV → List AV
  | .x v => v.cells.toList.map .x
  | .agg l => l
  | av => [av]
/-- A struct of cells: whole, where all of it is known whole. -/
def mkA (l : List AV) : AV := if l.all AV.ex then .x (.agg (l.map AV.val).toArray) else .agg l
def spl (cells : List AV) (o : Nat) (new : List AV) : List AV := cells.take o ++ new ++ cells.drop (o + new.length)
section
variable {F : Nat → Prop} {w : World}
theorem ex_val {l : List AV} (h : l.all AV.ex = true) : l = (l.map AV.val).map AV.x := by
  rw [List.map_map]
  conv => lhs; rw [← List.map_id l]
  apply List.map_congr_left
  intro x hx
  have := List.all_eq_true.1 h x hx
  cases x <;> first | rfl | (simp [AV.ex] at this)
theorem Den.mkA {l : List AV} {vals : List Value} (h : DenL F w l vals) : Den F w (mkA l) (.agg vals.toArray) := by
  unfold Go.Proofs.YtfaljkenmbbbaaaDoor.mkA
  split
  · rename_i hx
    rw [Den]
    rw [ex_val hx] at h
    rw [h.exact']
  · rw [Den]; exact ⟨vals, rfl, h⟩
theorem Den.cells {av : AV} {v : Value} (h : Den F w av v) (h1 : av.cells.all AV.one = true) : DenL F w av.cells v.cells.toList := by
  cases av with
  | x u => rw [Den] at h; subst h; simp only [AV.cells]; exact DenL.exact
  | top => simp [AV.cells, AV.one] at h1
  | sq n l =>
    have h' := h
    rw [Den] at h; obtain ⟨ad, cap, vals, rfl, _⟩ := h
    exact DenL.of (by simp [AV.cells, Value.cells]) fun j a u h1 h2 => by
      cases j <;> simp [AV.cells, Value.cells] at h1 h2
      subst h1 h2; exact h'
  | at_ l =>
    have h' := h
    rw [Den] at h; obtain ⟨b, o, vals, rfl, _⟩ := h
    exact DenL.of (by simp [AV.cells, Value.cells]) fun j a u h1 h2 => by
      cases j <;> simp [AV.cells, Value.cells] at h1 h2
      subst h1 h2; exact h'
  | agg l => rw [Den] at h; obtain ⟨vals, rfl, h⟩ := h; simpa [AV.cells, Value.cells] using h
  | tup l => simp [AV.cells, AV.one] at h1
  | ifc t a =>
    have h' := h
    rw [Den] at h; obtain ⟨u, rfl, _⟩ := h
    exact DenL.of (by simp [AV.cells, Value.cells]) fun j a u h1 h2 => by
      cases j <;> simp [AV.cells, Value.cells] at h1 h2
      subst h1 h2; exact h'
  | g p l => simp [AV.cells, AV.one] at h1
theorem Den.one {av : AV} {v : Value} (h : Den F w av v) (h1 : av.one = true) : v.oneCell' = true := by
  cases av with
  | x u => rw [Den] at h; subst h; exact h1
  | sq n l => rw [Den] at h; obtain ⟨ad, cap, vals, rfl, _⟩ := h; rfl
  | at_ l => rw [Den] at h; obtain ⟨b, o, vals, rfl, _⟩ := h; rfl
  | ifc t a => rw [Den] at h; obtain ⟨u, rfl, _⟩ := h; rfl
  | top => cases h1
  | agg l => cases h1
  | tup l => cases h1
  | g p l => cases h1
theorem DenL.one {l : List AV} {vs : List Value} (h : DenL F w l vs) (h1 : l.all AV.one = true) : ∀ u ∈ vs, u.oneCell' = true := by
  intro u hu
  obtain ⟨j, hj, rfl⟩ := List.getElem_of_mem hu
  have hj' : j < l.length := by rw [← h.len]; exact hj
  exact (h.get' j l[j] vs[j] (by simp [hj']) (by simp [hj])).one (List.all_eq_true.1 h1 _ (List.getElem_mem hj'))
theorem DenL.spl {l m : List AV} {vs us : List Value} (h : DenL F w l vs) (k : DenL F w m us) (o : Nat) : DenL F w (spl l o m) (vs.take o ++ us ++ vs.drop (o + us.length)) := by
  unfold Go.Proofs.YtfaljkenmbbbaaaDoor.spl
  rw [k.len]
  exact ((h.take o).app k).app (h.drop _)
end
theorem perm_at {α : Type} : ∀ (l : List α) (i : Nat) (x : α), l[i]? = some x → l.Perm (x :: l.eraseIdx i)
  | [], i, x, h => by simp at h
  | y :: l, 0, x, h => by simp at h; subst h; exact List.Perm.refl _
  | y :: l, i + 1, x, h => by
    have := perm_at l i x (by simpa using h)
    exact (this.cons y).trans (List.Perm.swap x y _)
theorem perm_set {α : Type} : ∀ (l : List α) (i : Nat) (x y : α), l[i]? = some x → (l.set i y).Perm (y :: l.eraseIdx i)
  | [], i, x, y, h => by simp at h
  | z :: l, 0, x, y, h => List.Perm.refl _
  | z :: l, i + 1, x, y, h => by
    have := perm_set l i x y (by simpa using h)
    exact (this.cons z).trans (List.Perm.swap y z _)
section
variable {P : Program} {V O : Nat → Prop} {w0 w w' : World} {H H' : List Hp} {T : List AV} {a : Act} {o : Oper} {K : List AV → List Hp → Prop}
theorem Rel.at (h : Rel V O w0 H T a w) (i : Nat) (x : Hp) (hi : H[i]? = some x) : Rel V O w0 (x :: H.eraseIdx i) T a w := by
  exact h.perm (perm_at H i x hi)
theorem Rel.back (i : Nat) (x y : Hp) (hi : H[i]? = some x) (h : Rel V O w0 (y :: H.eraseIdx i) T a w) : Rel V O w0 (H.set i y) T a w := by
  exact h.perm (perm_set H i x y hi).symm
/-- A block of the call's own turns: the i-th one. -/
theorem Rel.turnAt {x y : Hp} (h : Rel V O w0 H T a w) (i : Nat) (hi : H[i]? = some x) (hos : w'.os = w.os) (htp : w'.tape = w.tape) (hout : w'.output = w.output) (hs : w.heap.size ≤ w'.heap.size)
    (hw : ∀ k, k < w.heap.size → x.blk ≠ some k → w'.heap[k]? = w.heap[k]?) (hxy : ∀ k, y.blk = some k → k < w'.heap.size ∧ (x.blk = some k ∨ w.heap.size ≤ k))
    (hok : HpOk (FB V (H.set i y)) w' y) : Rel V O w0 (H.set i y) T a w' := by
  exact (Rel.turn (h.at i x hi) hos htp hout hs hw hxy (hok.weak (FB.perm (perm_set H i x y hi))) (fun _ _ _ => trivial)).back i x y hi
theorem Rel.hp (h : Rel V O w0 H T a w) (i : Nat) (x : Hp) (hi : H[i]? = some x) : HpOk (FB V H) w x := h.hok.ok x (List.mem_of_getElem? hi)

/-- A new variable. -/
theorem Stp_alloc (e : TypeId) (z : Value) (ho : o.op = .alloc e) (hz : (P.info? e).bind (·.zero) = some z) (h1 : z.cells.toList.all (·.oneCell') = true)
    (hK : ∀ b, K (putT T o.dst (.x (.pointer (some ⟨b, 0, none⟩)))) (.box b (z.cells.toList.map .x) :: H)) : Stp P o T H K := by
  intro V O w0 a w Kc Q r hKc
  obtain ⟨i, hi, hz⟩ := Option.bind_eq_some_iff.1 hz
  have hrun : (execOp a.eval o).run P w = .ok (.value (.pointer (some ⟨w.heap.size, 0, none⟩))) (w.alloc (.cells z.cells e)) := by
    simp [execOp, ho, Instr.alloc, zeroValue, typeInfo, hi, hz, newVar, newRow]
  unfold Oper.wp
  rw [hrun]
  refine hKc _ _ _ _ (hK w.heap.size) (Rel.put (Rel.new r (Ext.al _ _) _ ?_ ?_) _ (by rw [Den]))
  · intro k hk; cases hk; simp
  · refine ⟨z.cells.toList, DenL.exact, by simp, fun j u hj => ⟨?_, ?_, by simp [World.frozen?_alloc_new]⟩⟩
    · rw [World.cell?_alloc_new]; simpa using hj
    · exact List.all_eq_true.1 h1 u (List.mem_of_getElem? hj)
/-- A new variable with a value. -/
theorem Stp_box (e : TypeId) (x : Operand) (ho : o.op = .box e x) (h1 : (ev T x).cells.all AV.one = true)
    (hK : ∀ b, K (putT T o.dst (.x (.pointer (some ⟨b, 0, none⟩)))) (.box b (ev T x).cells :: H)) : Stp P o T H K := by
  intro V O w0 a w Kc Q r hKc
  have hd := (r.ev x).cells h1
  have hrun : (execOp a.eval o).run P w = .ok (.value (.pointer (some ⟨w.heap.size, 0, none⟩))) (w.alloc (.cells (a.eval x).cells e)) := by
    simp [execOp, ho, Instr.box, newVar, newRow]
  unfold Oper.wp
  rw [hrun]
  have hE : Ext w (w.alloc (.cells (a.eval x).cells e)) := Ext.al _ _
  refine hKc _ _ _ _ (hK w.heap.size) (Rel.put (Rel.new r hE _ ?_ ?_) _ (by rw [Den]))
  · intro k hk; cases hk; simp
  · refine ⟨(a.eval x).cells.toList, ?_, by simp, fun j u hj => ⟨?_, ?_, by simp [World.frozen?_alloc_new]⟩⟩
    · refine DenL.conv (fun k hk => ?_) (fun k hk _ => hE.block k hk) _ _ hd
      rcases hk with hk | ⟨y, hy, e⟩
      · exact .inl (.inl hk)
      · rcases List.mem_cons.1 hy with rfl | hy
        · cases e; exact .inr (Nat.le_refl _)
        · exact .inl (.inr ⟨y, hy, e⟩)
    · rw [World.cell?_alloc_new]; simpa using hj
    · exact hd.one h1 u (List.mem_of_getElem? hj)
/-- Is a type a struct or an array. -/
def aggT (P : Program) (t : TypeId) : Option (Bool × Nat) := do
  let d ← P.underlying t
  let i ← P.info? t
  pure (match d with | .struct _ | .array _ _ => (true, i.size) | _ => (false, i.size))
theorem run_isAgg (t : TypeId) (b : Bool) (n : Nat) (h : aggT P t = some (b, n)) (w : World) : (isAgg t).run P w = .ok b w ∧ (sizeOf t).run P w = .ok n w := by
  unfold aggT at h
  cases hd : P.underlying t with
  | none => simp [hd] at h
  | some d =>
    cases hi : P.info? t with
    | none => simp [hd, hi] at h
    | some i =>
      simp [hd, hi] at h
      constructor
      · unfold isAgg
        rw [Sem.run_bind, run_underlying hd w]
        cases d <;> simp_all
      · simp [sizeOf, typeInfo, hi]; cases d <;> simp_all
/-- What a load gives. -/
def ldA (agg : Bool) (n : Nat) (cells : List AV) : AV := if agg then mkA (cells.take n) else cells.getD 0 .top
theorem run_loadVar_cells (t : TypeId) (b : Bool) (n : Nat) (h : aggT P t = some (b, n)) (w : World) (F : Nat → Prop) (g off : Nat) (cells : List AV) (vals : List Value) (hd : DenL F w cells vals)
    (hc : ∀ j u, vals[j]? = some u → w.cell? ⟨g, off + j, none⟩ = some u) (hn : n ≤ cells.length) (hn0 : b = false → 0 < cells.length) : ∃ v, (loadVar t ⟨g, off, none⟩).run P w = .ok v w ∧ Den F w (ldA b n cells) v := by
  have hadd : ∀ j, (⟨g, off, none⟩ : Addr).add j = ⟨g, off + j, none⟩ := fun j => by unfold Addr.add; split <;> simp_all
  obtain ⟨h1, h2⟩ := run_isAgg t b n h w
  cases b with
  | true =>
    have hl : (loadCells ⟨g, off, none⟩ (vals.take n).length).run P w = .ok (vals.take n).toArray w := run_loadCells_list (P := P) w _ _ fun j v hj => by
      rw [hadd]
      rw [List.getElem?_take] at hj
      split at hj
      · exact hc j v hj
      · cases hj
    have hlen : (vals.take n).length = n := by rw [List.length_take, hd.len]; omega
    rw [hlen] at hl
    refine ⟨.agg (vals.take n).toArray, ?_, ?_⟩
    · simp [loadVar, h1, h2, hl]
    · simp only [ldA, if_true]; exact Den.mkA (hd.take n)
  | false =>
    have h0 := hn0 rfl
    obtain ⟨u, hu, hdu⟩ := hd.get 0 cells[0] (by simp [h0])
    have := hc 0 u hu
    rw [Nat.add_zero] at this
    refine ⟨u, ?_, ?_⟩
    · simp [loadVar, h1, run_load, this]
    · simp only [ldA, Bool.false_eq_true, if_false]
      rw [show cells.getD 0 .top = cells[0] from by simp [List.getD, h0]]; exact hdu
theorem wp_load_of {Kc : Act → World → Prop} {Q : Exit → Act → World → Prop} {t : TypeId} {x : Operand} {ad : Addr} {v : Value} (ho : o.op = .load t x) (hx : a.eval x = .pointer (some ad)) (hr : (loadVar t ad).run P w = .ok v w) (h : Kc (a.put o.dst v) w) : o.wp P a w Kc Q := by
  unfold Oper.wp execOp
  simp only [ho, hx, Instr.loadAt, Instr.sureAddr, Sem.run_bind, Sem.run_pure, Result.andThen_ok, hr]
  exact h
/-- A load out of a variable of the call's own. -/
theorem Evl_load {ρ : Operand → AV} (i : Nat) (t : TypeId) (x : Operand) (b off : Nat) (cells : List AV) (agg : Bool) (n : Nat) (ho : o.op = .load t x) (hx : ρ x = .x (.pointer (some ⟨b, off, none⟩))) (hi : H[i]? = some (.box b cells))
    (ht : aggT P t = some (agg, n)) (hn : off + n ≤ cells.length) (hn0 : off < cells.length) : Evl P o ρ H (ldA agg n (cells.drop off)) := by
  intro V a w Kc Q r hKc
  obtain ⟨vals, hd, hl, hc⟩ := r.hp i _ hi
  obtain ⟨v, hr, hdv⟩ := run_loadVar_cells (P := P) t agg n ht w _ b off (cells.drop off) (vals.drop off) (hd.drop off) (fun j u hj => (hc (off + j) u (by rwa [List.getElem?_drop] at hj)).1) (by simp; omega) (fun _ => by simp; omega)
  exact wp_load_of ho (r.evx (by simp [ho, Op.operands]) hx) hr (hKc _ _ (Below.refl _ _) hdv)
/-- A load out of a row of the call's own. -/
theorem Evl_load_row {ρ : Operand → AV} (i : Nat) (t : TypeId) (x : Operand) (b off : Nat) (m cap : Nat) (e : TypeId) (size : Nat) (cells : List AV) (agg : Bool) (n : Nat) (ho : o.op = .load t x) (hx : ρ x = .x (.pointer (some ⟨b, off, none⟩))) (hi : H[i]? = some (.row (some ⟨b, 0, none⟩) m cap e size cells))
    (ht : aggT P t = some (agg, n)) (hn : off + n ≤ cells.length) (hn0 : off < cells.length) : Evl P o ρ H (ldA agg n (cells.drop off)) := by
  intro V a w Kc Q r hKc
  obtain ⟨vals, hd, hown, _⟩ := r.hp i _ hi
  have hc := hown.cells (g := b) rfl
  have hadd : ∀ j, (⟨b, 0, none⟩ : Addr).add j = ⟨b, j, none⟩ := fun j => by unfold Addr.add; split <;> simp_all
  obtain ⟨v, hr, hdv⟩ := run_loadVar_cells (P := P) t agg n ht w _ b off (cells.drop off) (vals.drop off) (hd.drop off) (fun j u hj => by rw [List.getElem?_drop] at hj; have := hc _ u hj; rwa [hadd] at this) (by simp; omega) (fun _ => by simp; omega)
  exact wp_load_of ho (r.evx (by simp [ho, Op.operands]) hx) hr (hKc _ _ (Below.refl _ _) hdv)
/-- A load out of memory that nobody writes. -/
theorem Evl_load_at {ρ : Operand → AV} (t : TypeId) (x : Operand) (cells : List AV) (agg : Bool) (n : Nat) (ho : o.op = .load t x) (hx : ρ x = .at_ cells)
    (ht : aggT P t = some (agg, n)) (hn : n ≤ cells.length) (hn0 : 0 < cells.length) : Evl P o ρ H (ldA agg n cells) := by
  intro V a w Kc Q r hKc
  have hd := r.ops x (by simp [ho, Op.operands, Call.operands])
  rw [hx, Den] at hd
  obtain ⟨b, off, vals, hv, hm, hl⟩ := hd
  rcases hm with rfl | ⟨b', o', e, hb, hc⟩
  · have := hl.len; simp at this; omega
  · cases e
    obtain ⟨v, hr, hdv⟩ := run_loadVar_cells (P := P) t agg n ht w _ b off cells vals hl (fun j u hj => (hc j u hj).1) hn (fun _ => hn0)
    exact wp_load_of ho hv hr (hKc _ _ (Below.refl _ _) hdv)

/-! ### Stores -/

theorem run_storeCells_set (b : Nat) : ∀ (vs : List Value) (off i : Nat) (w : World), (∀ u ∈ vs, u.oneCell' = true) → (∀ j, j < vs.length → (w.cell? ⟨b, off + i + j, none⟩).isSome = true ∧ w.frozen? ⟨b, off + i + j, none⟩ = false) →
    ∃ w', (storeCells ⟨b, off, none⟩ vs i).run P w = .ok () w' ∧ w'.os = w.os ∧ w'.tape = w.tape ∧ w'.output = w.output ∧ w'.heap.size = w.heap.size ∧ (∀ k, k ≠ b → w'.heap[k]? = w.heap[k]?) ∧
      (∀ j, j < vs.length → w'.cell? ⟨b, off + i + j, none⟩ = vs[j]?) ∧ (∀ j, (j < off + i ∨ off + i + vs.length ≤ j) → w'.cell? ⟨b, j, none⟩ = w.cell? ⟨b, j, none⟩) ∧ (∀ j, w'.frozen? ⟨b, j, none⟩ = w.frozen? ⟨b, j, none⟩)
  | [], off, i, w, _, _ => ⟨w, by simp [storeCells], rfl, rfl, rfl, rfl, fun _ _ => rfl, fun j hj => (by simp at hj), fun _ _ => rfl, fun _ => rfl⟩
  | v :: vs, off, i, w, h1, h2 => by
    have hadd : (⟨b, off, none⟩ : Addr).add i = ⟨b, off + i, none⟩ := by unfold Addr.add; split <;> simp_all
    obtain ⟨hc, hf⟩ := h2 0 (by simp)
    rw [Nat.add_zero] at hc hf
    obtain ⟨u, hu⟩ := Option.isSome_iff_exists.1 hc
    have hlt : b < w.heap.size := World.block_lt_of_cell? w _ hu
    -- the block's cells
    obtain ⟨C, e, fr, hg⟩ : ∃ C e fr, w.heap[b]? = some (.cells C e fr) := by
      unfold World.cell? at hu
      cases hh : w.heap[b]? with
      | none => simp [hh] at hu
      | some ob => cases ob <;> simp [hh] at hu; exact ⟨_, _, _, rfl⟩
    have hset : (w.setCell ⟨b, off + i, none⟩ v).heap[b]? = some (.cells (C.setIfInBounds (off + i) v) e fr) := by
      simp [World.setCell, Array.getElem?_modify, hg]
    have hcell : ∀ j, (w.setCell ⟨b, off + i, none⟩ v).cell? ⟨b, j, none⟩ = if j = off + i then some v else w.cell? ⟨b, j, none⟩ := by
      intro j
      have hC : C[off + i]? = some u := by unfold World.cell? at hu; simp [hg] at hu; exact hu
      have hCl := (Array.getElem?_eq_some_iff.1 hC).1
      unfold World.cell?
      simp only [hset, hg]
      simp only [Option.isSome_none, Bool.false_eq_true, if_false]
      by_cases hj : j = off + i
      · subst hj; simp [hCl]
      · rw [if_neg hj, Array.getElem?_setIfInBounds_ne (by omega)]
    have hfro : ∀ j, (w.setCell ⟨b, off + i, none⟩ v).frozen? ⟨b, j, none⟩ = w.frozen? ⟨b, j, none⟩ := by
      intro j
      unfold World.frozen?
      simp only [hset, hg]
    have hsz : (w.setCell ⟨b, off + i, none⟩ v).heap.size = w.heap.size := by simp [World.setCell]
    obtain ⟨w', hr, g1, g2, g3, g4, g5, g6, g7, g8⟩ := run_storeCells_set b vs off (i + 1) (w.setCell ⟨b, off + i, none⟩ v) (fun u hu => h1 u (by simp [hu])) fun j hj => by
      have := h2 (j + 1) (by simp; omega)
      rw [show off + i + (j + 1) = off + (i + 1) + j from by omega] at this
      refine ⟨?_, by rw [hfro]; exact this.2⟩
      rw [hcell, if_neg (by omega)]; exact this.1
    refine ⟨w', ?_, g1, g2, g3, g4.trans hsz, fun k hk => (g5 k hk).trans (Below.heap_setCell _ _ _ _ hk), fun j hj => ?_, fun j hj => ?_, fun j => (g8 j).trans (hfro j)⟩
    · simp only [storeCells, Sem.run_bind, hadd]
      rw [run_store P w _ v _ (h1 v (by simp)), hu]
      simp only [hf, Bool.false_eq_true, if_false, Result.andThen_ok]
      exact hr
    · cases j with
      | zero =>
        rw [Nat.add_zero, g7 _ (by omega), hcell, if_pos rfl]; rfl
      | succ j =>
        rw [show off + i + (j + 1) = off + (i + 1) + j from by omega, g6 j (by simpa using hj)]; simp
    · rw [g7 j (by simp at hj; omega), hcell, if_neg (by simp at hj; omega)]
theorem run_storeVar_set (t : TypeId) (b off : Nat) (v : Value) (w : World) (hs : (P.info? t).map (·.size) = some v.cells.size) (h1 : ∀ u ∈ v.cells.toList, u.oneCell' = true)
    (h2 : ∀ j, j < v.cells.size → (w.cell? ⟨b, off + j, none⟩).isSome = true ∧ w.frozen? ⟨b, off + j, none⟩ = false) :
    ∃ w', (storeVar t ⟨b, off, none⟩ v).run P w = .ok () w' ∧ w'.os = w.os ∧ w'.tape = w.tape ∧ w'.output = w.output ∧ w'.heap.size = w.heap.size ∧ (∀ k, k ≠ b → w'.heap[k]? = w.heap[k]?) ∧
      (∀ j, j < v.cells.size → w'.cell? ⟨b, off + j, none⟩ = v.cells[j]?) ∧ (∀ j, (j < off ∨ off + v.cells.size ≤ j) → w'.cell? ⟨b, j, none⟩ = w.cell? ⟨b, j, none⟩) ∧ (∀ j, w'.frozen? ⟨b, j, none⟩ = w.frozen? ⟨b, j, none⟩) := by
  obtain ⟨w', hr, g1, g2, g3, g4, g5, g6, g7, g8⟩ := run_storeCells_set (P := P) b v.cells.toList off 0 w h1 (fun j hj => by simpa using h2 j (by simpa using hj))
  refine ⟨w', ?_, g1, g2, g3, g4, g5, fun j hj => ?_, fun j hj => ?_, g8⟩
  · cases hq : P.info? t with
    | none => simp [hq] at hs
    | some i =>
      have : v.cells.size = i.size := by simp [hq] at hs; omega
      simp [storeVar, sizeOf, typeInfo, hq, this, hr]
  · have := g6 j (by simpa using hj); simpa using this
  · exact g7 j (by simpa using hj)
theorem wp_store_of {Kc : Act → World → Prop} {Q : Exit → Act → World → Prop} {t : TypeId} {x y : Operand} {ad : Addr} (ho : o.op = .store t x y) (hx : a.eval x = .pointer (some ad)) (hr : (storeVar t ad (a.eval y)).run P w = .ok () w') (h : Kc (a.put o.dst undef) w') : o.wp P a w Kc Q := by
  unfold Oper.wp execOp
  simp only [ho, hx, Instr.storeAt, Instr.sureAddr, Sem.run_bind, Sem.run_pure, Result.andThen_ok, hr]
  exact h
/-- A store into a variable of the call's own. -/
theorem Stp_store (i : Nat) (t : TypeId) (x y : Operand) (b off : Nat) (cells : List AV) (ho : o.op = .store t x y) (hx : ev T x = .x (.pointer (some ⟨b, off, none⟩))) (hi : H[i]? = some (.box b cells))
    (ht : (P.info? t).map (·.size) = some (ev T y).cells.length) (h1 : (ev T y).cells.all AV.one = true) (hn : off + (ev T y).cells.length ≤ cells.length)
    (hK : K (putT T o.dst (.x undef)) (H.set i (.box b (spl cells off (ev T y).cells)))) : Stp P o T H K := by
  intro V O w0 a w Kc Q r hKc
  obtain ⟨vals, hd, hl, hc⟩ := r.hp i _ hi
  have hy := (r.ev y).cells h1
  have hlen : (a.eval y).cells.size = (ev T y).cells.length := by have := hy.len; simpa using this
  have hvl := hd.len
  obtain ⟨w', hr, g1, g2, g3, g4, g5, g6, g7, g8⟩ := run_storeVar_set (P := P) t b off (a.eval y) w (by rw [ht, hlen]) (hy.one h1) (fun j hj => by
    have hj' : off + j < vals.length := by omega
    obtain ⟨c1, _, c3⟩ := hc (off + j) vals[off + j] (by simp [hj'])
    exact ⟨by rw [c1]; rfl, c3⟩)
  refine wp_store_of ho (r.evx hx) hr (hKc _ _ _ _ hK (Rel.put (Rel.turnAt (y := .box b (spl cells off (ev T y).cells)) r i hi g1 g2 g3 (by omega) (fun k _ hk => g5 k (fun e => hk (by rw [e]; rfl))) (fun k hk => ⟨by cases hk; omega, .inl hk⟩) ?_) _ (by rw [Den])))
  have hF : ∀ k, FB V (H.set i (.box b (spl cells off (ev T y).cells))) k → FB V H k := by
    intro k hk
    rcases hk with hk | ⟨z, hz, e⟩
    · exact .inl hk
    · rcases List.mem_or_eq_of_mem_set hz with hz | rfl
      · exact .inr ⟨z, hz, e⟩
      · exact .inr ⟨_, List.mem_of_getElem? hi, e⟩
  have hw : ∀ k, k < w.heap.size → ¬ FB V H k → w'.heap[k]? = w.heap[k]? := fun k _ hn => g5 k fun e => hn (.inr ⟨_, List.mem_of_getElem? hi, by rw [e]; rfl⟩)
  refine ⟨vals.take off ++ (a.eval y).cells.toList ++ vals.drop (off + (a.eval y).cells.toList.length), DenL.conv (fun k hk => .inl (hF k hk)) hw _ _ (hd.spl hy off), by omega, fun j u hj => ?_⟩
  rw [Array.length_toList] at hj
  have htl : (vals.take off).length = off := by rw [List.length_take]; omega
  refine (?_ : (w'.cell? ⟨b, j, none⟩ = some u ∧ u.oneCell' = true) ∧ w'.frozen? ⟨b, j, none⟩ = false) |> fun h => ⟨h.1.1, h.1.2, h.2⟩
  by_cases h3 : j < off
  · rw [List.append_assoc, List.getElem?_append_left (by omega), List.getElem?_take, if_pos h3] at hj
    obtain ⟨c1, c2, c3⟩ := hc j u hj
    exact ⟨⟨by rw [g7 j (.inl h3)]; exact c1, c2⟩, by rw [g8]; exact c3⟩
  · by_cases h4 : j < off + (a.eval y).cells.size
    · rw [List.append_assoc, List.getElem?_append_right (by omega), htl, List.getElem?_append_left (by simp; omega)] at hj
      have e := g6 (j - off) (by omega)
      rw [show off + (j - off) = j from by omega] at e
      refine ⟨⟨?_, hy.one h1 u (List.mem_of_getElem? hj)⟩, ?_⟩
      · rw [e]; simpa using hj
      · rw [g8]
        have hj' : j < vals.length := by omega
        exact (hc j vals[j] (by simp [hj'])).2.2
    · rw [List.getElem?_append_right (by simp; omega), List.getElem?_drop] at hj
      have e : off + (a.eval y).cells.size + (j - ((vals.take off) ++ (a.eval y).cells.toList).length) = j := by simp; omega
      rw [e] at hj
      obtain ⟨c1, c2, c3⟩ := hc j u hj
      exact ⟨⟨by rw [g7 j (.inr (by omega))]; exact c1, c2⟩, by rw [g8]; exact c3⟩
end
end Go.Proofs.YtfaljkenmbbbaaaDoor
/- More of the base: strings of bytes under index and slice, appends of a literal. No program in sight. -/
namespace Go.Proofs.YtfaljkenmbbbaaaDoor
open Go.RowKit
set_option linter.unusedSimpArgs false
set_option linter.unusedVariables false
@[simp, go_sem] theorem bs_get (l : List UInt8) (i : Nat) (h : i < (bs l).size) : (bs l)[i] = l[i]'(by simpa using h) := by
  simp [bs, ByteArray.getElem_eq_getElem_data]
@[simp, go_sem] theorem bs_from (l : List UInt8) (i : Nat) : (bs l).extract i l.length = bs (l.drop i) := by
  apply ByteArray.ext; apply Array.toList_inj.1; simp [bs, ByteArray.data_extract, List.take_of_length_le]
@[simp, go_sem] theorem bs_to (l : List UInt8) (k : Nat) : (bs l).extract 0 k = bs (l.take k) := by
  apply ByteArray.ext; apply Array.toList_inj.1; simp [bs, ByteArray.data_extract, List.take_of_length_le]
theorem bs_nil : bs [] = ⟨#[]⟩ := rfl
theorem bs_lit (a : Array UInt8) : (⟨a⟩ : ByteArray) = bs a.toList := by simp [bs]
theorem drop_cons {l : List UInt8} {k : Nat} (h : k < l.length) : l.drop k = l[k] :: l.drop (k + 1) := List.drop_eq_getElem_cons h
section
variable {P : Program} {ops : Array Oper} {rest : List Oper} {o : Oper} {a : Act} {Q : Exit → Act → World → Prop}
/-- 'append(s, x1, .., xk)' of bytes: their row has been made just now. -/
theorem wpList_append_lit (W w : World) (lo' : Nat) (hgd : o.guard = none) (s x : Operand) (t : TypeId) (ho : o.op = .call { callee := .builtin .append, args := #[s, x], argTypes := #[t, t] })
    (e : TypeId) (hE : ElemAt P t e (.int .u8 0) 1 1) (v : Value) (l : List UInt8) (hs : a.eval s = v) (hown : Ob lo' e w v l)
    (C : Array Value) (g k : Nat) (m : List UInt8) (hx : a.eval x = .slice (some ⟨g, 0, none⟩) k k) (hg : g = w.heap.size) (hC : C.toList = u8s m) (hk : k = m.length) (r : List UInt8) (n : Nat) (hr : l ++ m = r) (hn : r.length = n) (hf : n ≤ 10000000) (hW : Ext W w) (hlo : W.heap.size = lo')
    (h : ∀ ad cap t' d', Ob lo' e (W.ext t' d') (.slice ad n cap) r → wpList P ops Q rest (a.put o.dst (.slice ad n cap)) (W.ext t' d')) : wpList P ops Q (o :: rest) a (w.alloc (.cells C e)) := by
  subst hg hk
  refine wpList_append_bytes W (w.alloc (.cells C e)) lo' hgd s x t ho e hE v l hs (hown.mono (Ext.al _ _)) 0 _ m hx (Bs.block _ _ _ _ _ _ _ _ m rfl (Nat.zero_le _) hC rfl (Nat.le_refl _) ?_) r n hr hn hf (hW.trans (Below.alloc (Below.refl _ _) hW.size _)) hlo fun ad cap t' d' a _ => h ad cap t' d' a
  have h1 : m.length ≤ r.length := by rw [← hr]; simp
  unfold maxLen; omega
/-- A row that is nil or the call's own, of n elements with the cells xs. -/
def Ow (lo : Nat) (e : TypeId) (size : Nat) (w : World) (v : Value) (n : Nat) (xs : List Value) : Prop := w.ownsRow lo e size v n xs
/-- 'append(s, x1, .., xk)' of whatever elements: their row has been made just now. -/
theorem wpList_append_row (W w : World) (lo' : Nat) (hgd : o.guard = none) (s x : Operand) (t : TypeId) (ho : o.op = .call { callee := .builtin .append, args := #[s, x], argTypes := #[t, t] })
    (e : TypeId) (z : Value) (size bytes : Nat) (hE : ElemAt P t e z size bytes) (v : Value) (n : Nat) (xs : List Value) (hs : a.eval s = v) (hown : Ow lo' e size w v n xs)
    (C : Array Value) (g k : Nat) (ys : List Value) (hx : a.eval x = .slice (some ⟨g, 0, none⟩) k k) (hg : g = w.heap.size) (hC : C.toList = ys) (hk : ys.length = k * size) (h1 : ∀ u ∈ ys, u.oneCell' = true) (hf : n + k ≤ 10000000) (hb : bytes ≤ 100000) (hW : Ext W w) (hlo : W.heap.size = lo')
    (h : ∀ ad cap t' d', Ow lo' e size (W.ext t' d') (.slice ad (n + k) cap) (n + k) (xs ++ ys) → wpList P ops Q rest (a.put o.dst (.slice ad (n + k) cap)) (W.ext t' d')) : wpList P ops Q (o :: rest) a (w.alloc (.cells C e)) := by
  subst hg hlo hC
  have hsl : Sl 0 (w.alloc (.cells C e)) (.slice (some ⟨w.heap.size, 0, none⟩) k k) k C.toList := by
    refine ⟨_, _, rfl, Nat.le_refl _, (by unfold maxLen; omega), (by intro h; cases h), (fun _ _ => Nat.zero_le _), fun j u hj => ⟨_, rfl, ?_⟩⟩
    have hadd : (⟨w.heap.size, 0, none⟩ : Addr).add j = ⟨w.heap.size, j, none⟩ := by unfold Addr.add; split <;> simp_all
    rw [hadd, World.cell?_alloc_mark, ← Array.getElem?_toList, hj]
  refine wpList_append_sl (w.alloc (.cells C e)) hgd s x t ho W.heap.size e z size bytes hE v n xs hs (own_mono hown (Ext.al _ _)) 0 _ k C.toList hx hsl hk h1 (fits _ _ hf hb) (Nat.le_trans hW.size (by simp)) ?_
  intro v' w' h2 _ h3 _
  have hE' : Ext W w' := (hW.trans (Below.alloc (Below.refl _ _) hW.size _)).trans h3
  obtain ⟨t', d', rfl⟩ := Ext.form hE'
  obtain ⟨ad, cap, rfl, _⟩ := (Sl.own h2).shape
  exact h ad cap t' d' h2
end
section
variable {lo : Nat} {e : TypeId} {size n : Nat} {w w' : World} {v : Value} {xs : List Value}
theorem Ow.sl (h : Ow lo e size w v n xs) : Sl lo w v n xs := Sl.own h
theorem Ow.mono (h : Ow lo e size w v n xs) (hb : Ext w w') : Ow lo e size w' v n xs := own_mono h hb
theorem Ow.agree (h : Ow lo e size w v n xs) (hb : Agree lo w.heap.size w w') : Ow lo e size w' v n xs := own_agree h hb
theorem Ow.weak {lo' : Nat} (h : Ow lo e size w v n xs) (hl : lo' ≤ lo) : Ow lo' e size w v n xs := own_weak h hl
theorem Ow.nil (lo : Nat) (e : TypeId) (size : Nat) (w : World) : Ow lo e size w (.slice none 0 0) 0 [] := World.ownsRow_nil _ _ _ _
theorem Ow.shape (h : Ow lo e size w v n xs) : ∃ ad cap, v = .slice ad n cap ∧ n ≤ cap := (Sl.own h).shape
end
/-- What '[]byte(s)' lays. -/
def strObj (w : World) (e : TypeId) (s : ByteArray) : Obj := .cells (Lib.bytesCells w e s) e ((Lib.bytesCells w e s).size, (Lib.bytesCells w e s).size + 1)
theorem bytesWorld_ext (w : World) (e : TypeId) (s : ByteArray) : Lib.bytesWorld w e s = w.ext #[strObj w e s] (w.drawn + 1) := by
  have h1 : (Lib.bytesWorld w e s).heap = w.heap ++ #[strObj w e s] := by
    apply Array.ext_getElem?
    intro j
    by_cases hj : j < w.heap.size
    · rw [Lib.bytesWorld_at_old w e s j hj, Array.getElem?_append_left hj]
    · rw [Array.getElem?_append_right (by omega)]
      by_cases he : j = w.heap.size
      · subst he; rw [Lib.bytesWorld_at_new, Nat.sub_self]; rfl
      · have h1 : (#[strObj w e s] : Array Obj).size = 1 := rfl
        rw [Array.getElem?_eq_none (by rw [Lib.bytesWorld_size]; omega), Array.getElem?_eq_none (by rw [h1]; omega)]
  have h2 : Lib.bytesWorld w e s = { w with heap := (Lib.bytesWorld w e s).heap, drawn := w.drawn + 1 } := rfl
  rw [h2, h1]; rfl
@[go_sem] theorem conv_string_bytes {P : Program} (w : World) (src t e : TypeId) (s : ByteArray) (hs : P.underlying src = some .string) (ht : P.underlying t = some (.slice (P.elem t))) (he : P.elem t = e) (hu : P.underlying e = some (.int .u8)) :
    (convert src t (.string s)).run P w = .ok (.slice (some ⟨w.heap.size, 0, none⟩) s.size (grownCap w s.size 0 e)) (w.ext #[strObj w e s] (w.drawn + 1)) := by
  subst he; rw [Lib.run_convert_string_bytes w src t _ s hs ht hu, bytesWorld_ext]
theorem bs_conv (w : World) (lo g n : Nat) (e : TypeId) (s : ByteArray) (l : List UInt8) (hg : g = w.heap.size) (hn : n = s.size) (hl : l = s.data.toList) (hs : s.size ≤ 1000000) (hlo : lo ≤ w.heap.size) : Bs lo (w.ext #[strObj w e s] (w.drawn + 1)) (.slice (some ⟨g, 0, none⟩) n (grownCap w n 0 e)) l := by
  subst hg hn hl
  have h1 := grownCap_ge w s.size 0 e
  have h2 := grownCap_le_maxLen w s.size 0 e (by unfold maxLen; omega)
  have hl : s.data.toList.length = s.size := Array.length_toList
  refine ⟨_, _, by rw [hl], by rw [hl]; exact h1, h2, (by intro h; cases h), (by intro x hx; cases hx; exact hlo), fun j u hj => ⟨_, rfl, ?_⟩⟩
  have hadd : (⟨w.heap.size, 0, none⟩ : Addr).add j = ⟨w.heap.size, j, none⟩ := by unfold Addr.add; split <;> simp_all
  have hj' := (List.getElem?_eq_some_iff.1 hj).1
  rw [u8s_len, hl] at hj'
  rw [hadd, ← bytesWorld_ext, Lib.bytesWorld_cell w e s j hj']
  rw [u8s, List.getElem?_map, List.getElem?_eq_getElem (by rw [hl]; exact hj')] at hj
  rw [List.getD, List.getElem?_eq_getElem (by rw [hl]; exact hj')]
  exact hj
end Go.Proofs.YtfaljkenmbbbaaaDoor
/- More of the base: appends behind which the world stays a name. No program in sight. -/
namespace Go.Proofs.YtfaljkenmbbbaaaDoor
open Go.RowKit
set_option linter.unusedSimpArgs false
set_option linter.unusedVariables false
section
variable {P : Program}
/-- Where 'append' lays its row: where it was, or in a block of its own. -/
theorem append_at (w : World) (lo' : Nat) (t ty e : TypeId) (hE : ElemAt P t e (.int .u8 0) 1 1) (v : Value) (l : List UInt8) (hown : Ob lo' e w v l)
    (lo : Nat) (u : Value) (m : List UInt8) (hsl : Bs lo w u m) (hf : l.length + m.length ≤ 10000000) (hlo : lo' ≤ w.heap.size) :
    ∃ ad cap w', (Builtin.append_ #[t, t] ty #[v, u]).run P w = .ok (.slice ad (l.length + m.length) cap) w' ∧ Ob lo' e w' (.slice ad (l.length + m.length) cap) (l ++ m) ∧ w.grownBy w' v.ownBlock ∧ ∀ x, ad = some x → v.ownBlock = some x.block ∨ x.block = w.heap.size := by
  obtain ⟨i, hi, hz, hsize, hby⟩ := info_parts hE.info
  obtain ⟨ad, cap, rfl, g1, g2, g3, _, g4⟩ := hsl
  have hF := fits (l.length + m.length) 1 hf (by decide)
  cases ad with
  | none =>
    have hc := g3 rfl
    subst hc
    have : m = [] := List.eq_nil_of_length_eq_zero (by omega)
    subst this
    have hrun := run_append_owned_none (P := P) (w := w) lo' t ty e i 1 hE.under hi v l.length (u8s l) hown
    obtain ⟨a1, c1, rfl, _⟩ := hown.bs.shape
    refine ⟨a1, c1, w, hrun, by rw [List.append_nil]; exact hown, World.grownBy.refl _ _, fun x hx => .inl (by rw [hx]; rfl)⟩
  | some a =>
    have hnews : ∀ j u, (u8s m)[j]? = some u → w.cell? (a.add j) = some u := fun j u hj => by
      obtain ⟨y, hy, hu⟩ := g4 j u hj
      cases hy; exact hu
    have hl : (u8s m).length = m.length * 1 := by rw [u8s_len, Nat.mul_one]
    obtain ⟨v', w', hrun, h1, h2, h3⟩ := run_append_own (P := P) (w := w) lo' t ty e i (.int .u8 0) 1 1 hE.under hi hz hsize hby hE.zs hE.pos v l.length (u8s l) hown a m.length cap (u8s m) hl hnews (u8s_one m) hF.2 hF.1 hlo
    have h1' : Ob lo' e w' v' (l ++ m) := by unfold Ob; rw [List.length_append, u8s_app]; exact h1
    obtain ⟨ad', cap', rfl, _⟩ := h1'.bs.shape
    rw [List.length_append] at hrun h1' h3
    refine ⟨ad', cap', w', hrun, h1', h2, fun x hx => ?_⟩
    subst hx
    rcases hown.2 with ⟨rfl, _⟩ | ⟨g, cap0, cur, rfl, hbg, hg, hnc, hcm, hcs, htake⟩
    · by_cases hm : m.length = 0
      · have := h3.2 ⟨rfl, hm⟩; cases this
      · have hl0 : l.length = 0 := by have := hown.bs.shape; obtain ⟨_, _, e, _⟩ := this; simp only [Value.slice.injEq] at e; omega
        have hr := run_append_nil (P := P) (w := w) t ty e i (.int .u8 0) hE.under hi hz a m.length cap (u8s m) (by rw [hl, hsize]) hnews (by omega) (by omega) (by rw [hby]; omega)
        rw [hr] at hrun
        simp only [Result.ok.injEq, Value.slice.injEq, Option.some.injEq] at hrun
        exact .inr (by rw [← hrun.1.1])
    · by_cases hroom : l.length + m.length ≤ cap0
      · have hr := run_append_room (P := P) (w := w) t ty e i hE.under hi g l.length cap0 cur hg a m.length cap (u8s m) (by rw [hl, hsize]) hnews (u8s_one m) hroom (by rw [hsize, hl, hcs]; omega)
        rw [hr] at hrun
        simp only [Result.ok.injEq, Value.slice.injEq, Option.some.injEq] at hrun
        exact .inl (by rw [← hrun.1.1]; rfl)
      · have hC := World.ownsRow.cells hown (g := g) rfl
        have hr := run_append_grow (P := P) (w := w) t ty e i (.int .u8 0) hE.under hi hz ⟨g, 0, none⟩ l.length cap0 (u8s l) (by rw [u8s_len, hsize, Nat.mul_one]) hC a m.length cap (u8s m) (by rw [hl, hsize]) hnews (by omega) (by omega) (growslice_fits (by omega) (by rw [hby]; omega))
        rw [hr] at hrun
        simp only [Result.ok.injEq, Value.slice.injEq, Option.some.injEq] at hrun
        exact .inr (by rw [← hrun.1.1])
end
section
variable {P : Program} {ops : Array Oper} {rest : List Oper} {o : Oper} {a : Act} {Q : Exit → Act → World → Prop}
/-- 'append(s, x...)' where the world behind stays a name: of it one knows that nothing below lo' has turned. -/
theorem wp_append_any {K : Act → World → Prop} (w : World) (lo' : Nat) (s x : Operand) (t : TypeId) (ho : o.op = .call { callee := .builtin .append, args := #[s, x], argTypes := #[t, t] })
    (e : TypeId) (hE : ElemAt P t e (.int .u8 0) 1 1) (v : Value) (l : List UInt8) (hs : a.eval s = v) (hown : Ob lo' e w v l)
    (lo : Nat) (u : Value) (m : List UInt8) (hx : a.eval x = u) (hsl : Bs lo w u m) (r : List UInt8) (n : Nat) (hr : l ++ m = r) (hn : r.length = n) (hf : n ≤ 10000000) (hlo : lo' ≤ w.heap.size)
    (h : ∀ ad cap w', Ob lo' e w' (.slice ad n cap) r → Below lo' w w' → (∀ k, k < w.heap.size → v.ownBlock ≠ some k → w'.heap[k]? = w.heap[k]?) → (∀ x, ad = some x → v.ownBlock = some x.block ∨ x.block = w.heap.size) → K (a.put o.dst (.slice ad n cap)) w') : o.wp P a w K Q := by
  subst hr hn
  obtain ⟨ad, cap, w', hr, h2, h3, h4⟩ := append_at (P := P) w lo' t o.type e hE v l hown lo u m hsl (by simpa using hf) hlo
  unfold Oper.wp execOp
  simp only [ho, resolve, invoke, builtin, Sem.run_bind, Sem.run_pure, Result.andThen_ok, List.map_toArray, List.map_cons, List.map_nil, hs, hx, hr]
  have hb : Below lo' w w' := (Below.refl _ _).grown h3 hlo fun k hk => (hown.lt k hk).1
  rw [← List.length_append]
  rw [← List.length_append] at h2
  exact h ad cap w' h2 hb (fun k hk hne => h3.block k hk fun e => hne e.symm) h4
theorem wpList_append_any (w : World) (lo' : Nat) (hgd : o.guard = none) (s x : Operand) (t : TypeId) (ho : o.op = .call { callee := .builtin .append, args := #[s, x], argTypes := #[t, t] })
    (e : TypeId) (hE : ElemAt P t e (.int .u8 0) 1 1) (v : Value) (l : List UInt8) (hs : a.eval s = v) (hown : Ob lo' e w v l)
    (lo : Nat) (u : Value) (m : List UInt8) (hx : a.eval x = u) (hsl : Bs lo w u m) (r : List UInt8) (n : Nat) (hr : l ++ m = r) (hn : r.length = n) (hf : n ≤ 10000000) (hlo : lo' ≤ w.heap.size)
    (h : ∀ ad cap w', Ob lo' e w' (.slice ad n cap) r → Below lo' w w' → (∀ k, k < w.heap.size → v.ownBlock ≠ some k → w'.heap[k]? = w.heap[k]?) → (∀ x, ad = some x → v.ownBlock = some x.block ∨ x.block = w.heap.size) → wpList P ops Q rest (a.put o.dst (.slice ad n cap)) w') : wpList P ops Q (o :: rest) a w :=
  wpList_plain hgd fun _ hK => wp_append_any w lo' s x t ho e hE v l hs hown lo u m hx hsl r n hr hn hf hlo fun ad cap w' a b c d => hK _ _ (h ad cap w' a b c d)
theorem step_append_any {K : Act → World → Prop} {E : Prop} (w : World) (lo' : Nat) (hgd : o.guard = none) (s x : Operand) (t : TypeId) (ho : o.op = .call { callee := .builtin .append, args := #[s, x], argTypes := #[t, t] })
    (e : TypeId) (hE : ElemAt P t e (.int .u8 0) 1 1) (v : Value) (l : List UInt8) (hs : a.eval s = v) (hown : Ob lo' e w v l)
    (lo : Nat) (u : Value) (m : List UInt8) (hx : a.eval x = u) (hsl : Bs lo w u m) (r : List UInt8) (n : Nat) (hr : l ++ m = r) (hn : r.length = n) (hf : n ≤ 10000000) (hlo : lo' ≤ w.heap.size)
    (h : ∀ ad cap w', Ob lo' e w' (.slice ad n cap) r → Below lo' w w' → (∀ k, k < w.heap.size → v.ownBlock ≠ some k → w'.heap[k]? = w.heap[k]?) → (∀ x, ad = some x → v.ownBlock = some x.block ∨ x.block = w.heap.size) → K (a.put o.dst (.slice ad n cap)) w') :
    if Region.wanted o (yielded ops a.tmps) = true then Oper.wp P o a w K Q else E := by
  have hw : Region.wanted o (yielded ops a.tmps) = true := by simp [Region.wanted, hgd]
  rw [if_pos hw]
  exact wp_append_any w lo' s x t ho e hE v l hs hown lo u m hx hsl r n hr hn hf hlo h
end
/-- What a row shows hangs on its own block alone. -/
theorem Bs.blk {lo : Nat} {w w' : World} {ad : Option Addr} {m cap : Nat} {l : List UInt8} (h : Bs lo w (.slice ad m cap) l) (hk : l ≠ [] → ∀ x, ad = some x → w'.heap[x.block]? = w.heap[x.block]?) : Bs lo w' (.slice ad m cap) l := by
  obtain ⟨ad', cap', e, h1, h2, h3, h5, h4⟩ := h
  refine ⟨ad', cap', e, h1, h2, h3, h5, fun j u hj => ?_⟩
  obtain ⟨x, hx, hu⟩ := h4 j u hj
  refine ⟨x, hx, ?_⟩
  cases e
  rw [World.cell?_of_block (w := w) (by rw [Addr.add_block]; exact hk (by intro e; subst e; simp [u8s] at hj) x hx)]; exact hu
theorem Bs.lt {lo : Nat} {w : World} {ad : Option Addr} {m cap : Nat} {l : List UInt8} (h : Bs lo w (.slice ad m cap) l) (hl : l ≠ []) : ∀ x, ad = some x → lo ≤ x.block ∧ x.block < w.heap.size := by
  obtain ⟨ad', cap', e, h1, h2, h3, h5, h4⟩ := h
  intro x hx
  cases e
  cases l with
  | nil => exact absurd rfl hl
  | cons c l =>
    obtain ⟨y, hy, hu⟩ := h4 0 _ rfl
    rw [hx] at hy; cases hy
    have := World.block_lt_of_cell? w _ hu
    rw [Addr.add_block] at this
    exact ⟨h5 x hx, this⟩
theorem Ob.blk {lo : Nat} {e : TypeId} {w w' : World} {ad : Option Addr} {m cap : Nat} {l : List UInt8} (h : Ob lo e w (.slice ad m cap) l) (hk : ∀ x, ad = some x → w'.heap[x.block]? = w.heap[x.block]?) : Ob lo e w' (.slice ad m cap) l := by
  obtain ⟨hl, hn | ⟨g, c, cur, he, hbg, hg, r⟩⟩ := h
  · exact ⟨hl, .inl hn⟩
  · refine ⟨hl, .inr ⟨g, c, cur, he, hbg, ?_, r⟩⟩
    cases he
    exact (hk _ rfl).trans hg
theorem Ob.lt {lo : Nat} {e : TypeId} {w : World} {ad : Option Addr} {m cap : Nat} {l : List UInt8} (h : Ob lo e w (.slice ad m cap) l) : ∀ x, ad = some x → x.block < w.heap.size := fun x hx => (World.ownsRow.lt h x.block (by rw [hx]; rfl)).2
section
variable {P : Program} {ops : Array Oper} {rest : List Oper} {o : Oper} {a : Act} {Q : Exit → Act → World → Prop}
/-- 'append(s, x...)' where s has no room left and x is not empty: the row is new. -/
theorem append_fresh (w : World) (t ty e : TypeId) (hE : ElemAt P t e (.int .u8 0) 1 1) (lo1 : Nat) (b : Addr) (l : List UInt8) (hv : Bs lo1 w (.slice (some b) l.length l.length) l)
    (lo : Nat) (u : Value) (m : List UInt8) (hsl : Bs lo w u m) (hm : 0 < m.length) (hf : l.length + m.length ≤ 10000000) :
    ∃ cap w', (Builtin.append_ #[t, t] ty #[.slice (some b) l.length l.length, u]).run P w = .ok (.slice (some ⟨w.heap.size, 0, none⟩) (l.length + m.length) cap) w' ∧ Ob w.heap.size e w' (.slice (some ⟨w.heap.size, 0, none⟩) (l.length + m.length) cap) (l ++ m) ∧ Ext w w' := by
  obtain ⟨i, hi, hz, hsize, hby⟩ := info_parts hE.info
  have hF := fits (l.length + m.length) 1 hf (by decide)
  obtain ⟨ad1, cap1, e1, _, _, _, _, g1⟩ := hv
  cases e1
  obtain ⟨ad, cap, rfl, _, _, g3, _, g4⟩ := hsl
  cases ad with
  | none => have := g3 rfl; omega
  | some a =>
    have hr := run_append_grow (P := P) (w := w) t ty e i (.int .u8 0) hE.under hi hz b l.length l.length (u8s l) (by rw [u8s_len, hsize, Nat.mul_one]) (fun j v hj => by obtain ⟨y, hy, hu⟩ := g1 j v hj; cases hy; exact hu) a m.length cap (u8s m) (by rw [u8s_len, hsize, Nat.mul_one]) (fun j v hj => by obtain ⟨y, hy, hu⟩ := g4 j v hj; cases hy; exact hu) (by omega) (by omega) (growslice_fits (by omega) (by rw [hby]; omega))
    have hge := grownCap_ge w (l.length + m.length) l.length e
    refine ⟨_, _, hr, ?_, ((Below.refl _ _).drew).alloc (by simp) _⟩
    unfold Ob
    rw [List.length_append]
    refine ⟨by rw [u8s_len, List.length_append, Nat.mul_one], .inr ⟨w.heap.size, _, _, rfl, Nat.le_refl _, heap_alloc_new w.drew _, hge, grownCap_le_maxLen w _ _ e hF.2, ?_, ?_⟩⟩
    · have hz1 : (Value.cells (.int .u8 0)).size = 1 := rfl
      simp only [Array.size_append, List.size_toArray, size_zeroCells, hz1, u8s_len, Nat.mul_one]
      omega
    · simp only [Array.toList_append, List.append_assoc]
      rw [← List.append_assoc, ← u8s_app, show (l.length + m.length) * 1 = (u8s (l ++ m)).length from by rw [u8s_len, List.length_append, Nat.mul_one]]
      exact List.take_left
/-- The same in a plain region. -/
theorem wpList_append_fresh (w : World) (hgd : o.guard = none) (s x : Operand) (t : TypeId) (ho : o.op = .call { callee := .builtin .append, args := #[s, x], argTypes := #[t, t] })
    (e : TypeId) (hE : ElemAt P t e (.int .u8 0) 1 1) (lo1 : Nat) (b : Addr) (k : Nat) (l : List UInt8) (hk : k = l.length) (hs : a.eval s = .slice (some b) k k) (hv : Bs lo1 w (.slice (some b) k k) l)
    (lo : Nat) (u : Value) (m : List UInt8) (hx : a.eval x = u) (hsl : Bs lo w u m) (hm : 0 < m.length) (hf : l.length + m.length ≤ 10000000)
    (h : ∀ cap w', Ob w.heap.size e w' (.slice (some ⟨w.heap.size, 0, none⟩) (l.length + m.length) cap) (l ++ m) → Ext w w' → wpList P ops Q rest (a.put o.dst (.slice (some ⟨w.heap.size, 0, none⟩) (l.length + m.length) cap)) w') : wpList P ops Q (o :: rest) a w := by
  subst hk
  refine wpList_plain hgd fun _ hK => ?_
  obtain ⟨cap, w', hr, h1, h2⟩ := append_fresh (P := P) w t o.type e hE lo1 b l hv lo u m hsl hm hf
  unfold Oper.wp execOp
  simp only [ho, resolve, invoke, builtin, Sem.run_bind, Sem.run_pure, Result.andThen_ok, List.map_toArray, List.map_cons, List.map_nil, hs, hx, hr]
  exact hK _ _ (h cap w' h1 h2)
end
end Go.Proofs.YtfaljkenmbbbaaaDoor
