import Derived.Test.YtkhhlmonhapmaaaGreatDoorW1
/- A walk over symbolic memory: the rules of code, and of operations that read no memory. No program in sight. -/
namespace Go.Proofs.YtkhhlmonhapmaaaGreatDoor
open Go.RowKit
set_option linter.unusedSimpArgs false
set_option linter.unusedVariables false
def str : AV → AV
  | .g true v => v
  | v => v
def ev (T : List AV) : Operand → AV
  | .tmp t => T.getD t .top
  | .const v => .x v
  | .global g => .x (.pointer (some ⟨g, 0, none⟩))
  | .func f => .x (.func (.func f) #[] #[])
def AV.val : AV → Value | .x v => v | _ => undef
def AV.ex : AV → Bool | .x _ => true | _ => false
section
variable {P : Program} {Δ : List Deferred} {V O : Nat → Prop} {w0 w w' : World} {H H' : List Hp} {T : List AV} {a : Act}
theorem Den.str {F : Nat → Prop} {av : AV} {v : Value} (h : Den F w av v) : Den F w (str av) v := by
  unfold Go.Proofs.YtkhhlmonhapmaaaGreatDoor.str
  split
  · rw [Den] at h; exact h.1 rfl
  · exact h
theorem Rel.ev (h : Rel Δ V O w0 H T a w) (o : Operand) : Den (FB V H) w (ev T o) (a.eval o) := by
  cases o with
  | tmp t =>
    simp only [Go.Proofs.YtkhhlmonhapmaaaGreatDoor.ev, Act.eval]
    by_cases ht : t < T.length
    · obtain ⟨u, hu, hd⟩ := h.tmps.get t T[t] (by simp [ht])
      rw [Array.getElem?_toList] at hu
      simp [hu, List.getD, ht]; exact hd
    · simp [List.getD, List.getElem?_eq_none (Nat.le_of_not_lt ht)]; rw [Den]; trivial
  | const v => simp [Go.Proofs.YtkhhlmonhapmaaaGreatDoor.ev, Act.eval, Den]
  | global g => simp [Go.Proofs.YtkhhlmonhapmaaaGreatDoor.ev, Act.eval, Den]
  | func f => simp [Go.Proofs.YtkhhlmonhapmaaaGreatDoor.ev, Act.eval, Den]
theorem Rel.evx (h : Rel Δ V O w0 H T a w) {o : Operand} {v : Value} (he : Go.Proofs.YtkhhlmonhapmaaaGreatDoor.ev T o = .x v) : a.eval o = v := by
  have := h.ev o
  rw [he, Den] at this; exact this
/-! ### Code -/

abbrev Post := Exit → List AV → List Hp → Prop
def lift (Δ : List Deferred) (V O : Nat → Prop) (w0 : World) (Q : Post) : Exit → Act → World → Prop := fun e a w => ∃ T H, Rel Δ V O w0 H T a w ∧ Q e T H
def awp (P : Program) (c : Code) (Q : Post) (T : List AV) (H : List Hp) : Prop :=
  ∀ Δ V O w0 a w, Rel Δ V O w0 H T a w → c.wp P (lift Δ V O w0 Q) a w
def awpL (P : Program) (ops : Array Oper) (Q : Post) (rest : List Oper) (T : List AV) (H : List Hp) : Prop :=
  ∀ Δ V O w0 a w, Rel Δ V O w0 H T a w → wpList P ops (lift Δ V O w0 Q) rest a w
def thenA (K : List AV → List Hp → Prop) (Q : Post) : Post
  | .normal, T, H => K T H
  | e, T, H => Q e T H
def inBlockA (id : Nat) (Q : Post) : Post
  | .exit id', T, H => if id' = id then Q .normal T H else Q (.exit id') T H
  | e, T, H => Q e T H
theorem awp_skip {Q : Post} (h : Q .normal T H) : awp P .skip Q T H := fun Δ V O w0 a w r => wp_skip ⟨T, H, r, h⟩
theorem awp_exit {Q : Post} {id : Nat} (h : Q (.exit id) T H) : awp P (.exit id) Q T H := fun Δ V O w0 a w r => wp_exit ⟨T, H, r, h⟩
theorem awp_ret {Q : Post} (h : Q .ret T H) : awp P .ret Q T H := fun Δ V O w0 a w r => wp_ret ⟨T, H, r, h⟩
theorem awp_seq {x y : Code} {Q : Post} (h : awp P x (thenA (awp P y Q) Q) T H) : awp P (.seq x y) Q T H := fun Δ V O w0 a w r =>
  wp_seq (wp_mono (h Δ V O w0 a w r) fun e a w ⟨T, H, r, q⟩ => by
    cases e with
    | normal => exact q Δ V O w0 a w r
    | _ => exact ⟨T, H, r, q⟩)
theorem awp_cond {c : Operand} {x y : Code} {Q : Post} (b : Bool) (hc : Go.Proofs.YtkhhlmonhapmaaaGreatDoor.ev T c = .x (.bool b)) (h1 : b = true → awp P x Q T H) (h2 : b = false → awp P y Q T H) : awp P (.cond c x y) Q T H :=
  fun Δ V O w0 a w r => wp_cond_split (r.evx hc) (fun hb => h1 hb Δ V O w0 a w r) (fun hb => h2 hb Δ V O w0 a w r)
theorem awp_block {id : Nat} {c : Code} {Q : Post} (h : awp P c (inBlockA id Q) T H) : awp P (.block id c) Q T H := fun Δ V O w0 a w r =>
  wp_block (wp_mono (h Δ V O w0 a w r) fun e a w ⟨T, H, r, q⟩ => by
    cases e with
    | exit id' =>
      simp only [inBlockA] at q
      simp only [Exit.inBlock]
      split
      · rename_i he; rw [if_pos he] at q; exact ⟨T, H, r, q⟩
      · rename_i he; rw [if_neg he] at q; exact ⟨T, H, r, q⟩
    | _ => exact ⟨T, H, r, q⟩)
theorem awp_region {id : Nat} {l : List Oper} {Q : Post} (h : awpL P l.toArray Q l T H) : awp P (.region id l.toArray false) Q T H :=
  fun Δ V O w0 a w r => wp_region_lit (h Δ V O w0 a w r)
theorem awp_drawn {id : Nat} {ops : Array Oper} {Q : Post} (hm : P.follows .mixedOrders = true)
    (h : ∀ Δ V O w0 a w, Rel Δ V O w0 H T a w → wpAny P .any ops (lift Δ V O w0 Q) ops.size (Array.replicate ops.size false) a w) : awp P (.region id ops true) Q T H :=
  fun Δ V O w0 a w r => wp_region_any hm (h Δ V O w0 a w.drew (r.quiet ((Below.refl _ _).drew)))

/-! ### Operations -/

def Stp (P : Program) (o : Oper) (T : List AV) (H : List Hp) (K : List AV → List Hp → Prop) : Prop :=
  ∀ (Δ : List Deferred) (V O : Nat → Prop) (w0 : World) (a : Act) (w : World) (Kc : Act → World → Prop) (Q : Exit → Act → World → Prop), Rel Δ V O w0 H T a w →
    (∀ T' H' a' w', K T' H' → Rel Δ V O w0 H' T' a' w' → Kc a' w') → o.wp P a w Kc Q
variable {ops : Array Oper} {rest : List Oper} {o : Oper} {Q : Post} {K : List AV → List Hp → Prop}
theorem awpL_nil (h : Q .normal T H) : awpL P ops Q [] T H := fun Δ V O w0 a w r => wpList_nil ⟨T, H, r, h⟩
theorem awpL_cons (hg : o.guard = none) (h : Stp P o T H (awpL P ops Q rest)) : awpL P ops Q (o :: rest) T H := fun Δ V O w0 a w r =>
  wpList_plain hg fun K hK => h Δ V O w0 a w K _ r fun T' H' a' w' hk hr => hK _ _ (hk Δ V O w0 a' w' hr)
def gdc (want : Bool) : AV → Option Bool
  | .x (.bool b) => match want with | true => some b | false => some (!b)
  | .g p (.x (.bool b)) => match want with | true => some (p && b) | false => some (p && !b)
  | _ => none
theorem wanted_of {j t : Nat} {want p : Bool} (r : Rel Δ V O w0 H T a w) (hg : o.guard = some (j, want)) (hd : (ops[j]?).bind (·.dst) = some t) (hp : gdc want (T.getD t .top) = some p) : Region.wanted o (yielded ops a.tmps) = p := by
  have hden : Den (FB V H) w (T.getD t .top) (a.tmps.getD t undef) := by
    by_cases ht : t < T.length
    · obtain ⟨u, hu, hd⟩ := r.tmps.get t T[t] (by simp [ht])
      rw [Array.getElem?_toList] at hu
      simp [hu, List.getD, ht]; exact hd
    · simp [List.getD, List.getElem?_eq_none (Nat.le_of_not_lt ht), gdc] at hp
  have hsome : ∀ u, a.tmps.getD t undef = u → u ≠ undef → a.tmps[t]? = some u := by
    intro u hu hne
    cases hv : a.tmps[t]? with
    | none => simp [hv] at hu; exact absurd hu.symm hne
    | some x => simp [hv] at hu; rw [hu]
  unfold Region.wanted
  rw [hg]
  simp only [yielded, hd]
  cases hav : T.getD t .top with
  | x v =>
    rw [hav] at hp hden
    rw [Den] at hden
    cases v <;> (try (simp [gdc] at hp; done))
    rename_i b
    have := hsome _ hden (by simp [undef])
    simp [this]
    cases b <;> cases want <;> simp [gdc] at hp <;> subst hp <;> rfl
  | g q v =>
    rw [hav] at hp hden
    cases v <;> (try (simp [gdc] at hp; done))
    rename_i v
    cases v <;> (try (simp [gdc] at hp; done))
    rename_i b
    rw [Den] at hden
    cases q with
    | true =>
      have hb := hden.1 rfl
      rw [Den] at hb
      have := hsome _ hb (by simp [undef])
      simp [this]
      cases b <;> cases want <;> simp [gdc] at hp <;> subst hp <;> rfl
    | false =>
      have hb := hden.2 rfl
      have hpf : p = false := by cases want <;> simp [gdc] at hp <;> (first | exact hp | fail)
      subst hpf
      cases hv : a.tmps[t]? with
      | none => simp [hv]
      | some x =>
        simp [hv] at hb
        subst hb
        simp [undef, hv]
  | _ => rw [hav] at hp; simp [gdc] at hp
structure OK (V : Nat → Prop) (H : List Hp) (ρ : Operand → AV) (o : Oper) (a : Act) (w : World) : Prop where
  hok : HOk V w H
  ops : ∀ x ∈ o.op.operands, Den (FB V H) w (ρ x) (a.eval x)
  vlt : ∀ k, V k → k < w.heap.size
  gw : Gw w
theorem OK.evx {ρ : Operand → AV} (h : OK V H ρ o a w) {x : Operand} {v : Value} (hm : x ∈ o.op.operands) (he : ρ x = .x v) : a.eval x = v := by
  have := h.ops x hm
  rw [he, Den] at this; exact this
theorem OK.hp {ρ : Operand → AV} (h : OK V H ρ o a w) (i : Nat) (x : Hp) (hi : H[i]? = some x) : HpOk (FB V H) w x := h.hok.ok x (List.mem_of_getElem? hi)
theorem Rel.oks (h : Rel Δ V O w0 H T a w) (o : Oper) : OK V H (Go.Proofs.YtkhhlmonhapmaaaGreatDoor.ev T) o a w := ⟨h.hok, fun x _ => h.ev x, fun k hk => Nat.lt_of_lt_of_le (h.vlt k hk) h.fr.size, h.gw⟩
def evs (T : List AV) : Operand → AV := fun x => str (Go.Proofs.YtkhhlmonhapmaaaGreatDoor.ev T x)
theorem OK.strip {ρ : Operand → AV} (h : OK V H ρ o a w) : OK V H (fun x => str (ρ x)) o a w := ⟨h.hok, fun x hx => (h.ops x hx).str, h.vlt, h.gw⟩
theorem Rel.oks' (h : Rel Δ V O w0 H T a w) (o : Oper) : OK V H (evs T) o a w := (h.oks o).strip
def Evl (P : Program) (o : Oper) (ρ : Operand → AV) (H : List Hp) (av : AV) : Prop :=
  ∀ (V : Nat → Prop) (a : Act) (w : World) (Kc : Act → World → Prop) (Q : Exit → Act → World → Prop), OK V H ρ o a w →
    (∀ v w', Ext w w' → Den (FB V H) w' av v → Kc (a.put o.dst v) w') → o.wp P a w Kc Q
theorem awpL_evl (hg : o.guard = none) (av : AV) (h : Evl P o (Go.Proofs.YtkhhlmonhapmaaaGreatDoor.ev T) H av) (hK : awpL P ops Q rest (putT T o.dst av) H) : awpL P ops Q (o :: rest) T H := fun Δ V O w0 a w r =>
  wpList_plain hg fun K hKc => h V a w K _ (r.oks o) fun v w' he hd => hKc _ _ (hK Δ V O w0 _ _ ((r.quiet he).put _ hd))
theorem awpL_g {j : Nat} {want : Bool} {t : Nat} (p : Bool) (av : AV) (hg : o.guard = some (j, want)) (hd : (ops[j]?).bind (·.dst) = some t) (hp : gdc want (T.getD t .top) = some p)
    (h : p = true → Evl P o (evs T) H av) (hK : awpL P ops Q rest (putT T o.dst (.g p av)) H) : awpL P ops Q (o :: rest) T H := fun Δ V O w0 a w r =>
  wpList_step fun K hKc => by
    rw [wanted_of r hg hd hp]
    cases hpb : p with
    | true =>
      simp only [if_true]
      subst hpb
      exact h rfl V a w K _ (r.oks' o) fun v w' he hd => hKc _ _ (hK Δ V O w0 _ _ ((r.quiet he).put _ (by rw [Den]; exact ⟨fun _ => hd, fun h => by cases h⟩)))
    | false =>
      simp only [Bool.false_eq_true, if_false]
      subst hpb
      exact hKc _ _ (hK Δ V O w0 _ _ (r.put _ (by rw [Den]; exact ⟨fun h => (by cases h), fun _ => rfl⟩)))
theorem Stp.mono {K' : List AV → List Hp → Prop} (h : Stp P o T H K) (hk : ∀ T H, K T H → K' T H) : Stp P o T H K' :=
  fun Δ V O w0 a w Kc Q r hK => h Δ V O w0 a w Kc Q r fun T' H' a' w' k r' => hK T' H' a' w' (hk _ _ k) r'
theorem Stp_evl (av : AV) (h : Evl P o (Go.Proofs.YtkhhlmonhapmaaaGreatDoor.ev T) H av) (hK : K (putT T o.dst av) H) : Stp P o T H K := fun Δ V O w0 a w Kc Q r hKc =>
  h V a w Kc Q (r.oks o) fun v w' he hd => hKc _ _ _ _ hK ((r.quiet he).put _ hd)
variable {ρ : Operand → AV}
theorem Evl_x (v : Value) (hs : ∀ cs b, o.op ≠ .select cs b) (hx : (o.op.operands.toList.all fun x => (ρ x).ex) = true)
    (hrun : ∀ w, (execOp (fun x => (ρ x).val) o).run P w = .ok (.value v) w) : Evl P o ρ H (.x v) := by
  intro V a w Kc Q r hKc
  have he : execOp a.eval o = execOp (fun x => (ρ x).val) o := execOp_congr o hs fun x h => by
    have hex := List.all_eq_true.1 hx x (by simpa using h)
    have hd := r.ops x h
    cases hv : ρ x with
    | x v => rw [hv, Den] at hd; rw [hd]; rfl
    | _ => rw [hv] at hex; cases hex
  unfold Oper.wp
  rw [he, hrun w]
  exact hKc _ _ (Below.refl _ _) (by rw [Den])
theorem Evl_mv (x : Operand) (ho : o.op = .move x) : Evl P o ρ H (ρ x) := by
  intro V a w Kc Q r hKc
  unfold Oper.wp execOp
  simp only [ho, Sem.run_pure, Oper.upon]; exact hKc _ _ (Below.refl _ _) (r.ops x (by simp [ho, Op.operands]))
theorem Evl_as (x : Operand) (ho : o.op = .assign x) : Evl P o ρ H (ρ x) := by
  intro V a w Kc Q r hKc
  unfold Oper.wp execOp
  simp only [ho, Sem.run_pure, Oper.upon]; exact hKc _ _ (Below.refl _ _) (r.ops x (by simp [ho, Op.operands]))
theorem Evl_extract (x : Operand) (i : Nat) (l : List AV) (av : AV) (ho : o.op = .extract x i) (hx : ρ x = .tup l) (hi : l[i]? = some av) : Evl P o ρ H av := by
  intro V a w Kc Q r hKc
  have hd := r.ops x (by simp [ho, Op.operands])
  rw [hx, Den] at hd
  obtain ⟨vals, hv, hl⟩ := hd
  obtain ⟨u, hu, hdu⟩ := hl.get i av hi
  unfold Oper.wp execOp
  simp only [ho, hv, Instr.extract, Sem.run_bind, List.getElem?_toArray, hu, Sem.run_pure, Result.andThen_ok, Oper.upon]
  exact hKc _ _ (Below.refl _ _) hdu
theorem Evl_pick (c x y : Operand) (b : Bool) (av : AV) (ho : o.op = .pick c x y) (hc : ρ c = .x (.bool b)) (h1 : b = true → ∀ V (w : World) v, Den (FB V H) w (ρ x) v → Den (FB V H) w av v) (h2 : b = false → ∀ V (w : World) v, Den (FB V H) w (ρ y) v → Den (FB V H) w av v) : Evl P o ρ H av := by
  intro V a w Kc Q r hKc
  have hd := r.evx (x := c) (by simp [ho, Op.operands]) hc
  unfold Oper.wp execOp
  simp only [ho, hd, asBool, Sem.run_bind, Sem.run_pure, Result.andThen_ok, Oper.upon]
  refine hKc _ _ (Below.refl _ _) ?_
  cases b
  · exact h2 rfl _ _ _ (r.ops y (by simp [ho, Op.operands]))
  · exact h1 rfl _ _ _ (r.ops x (by simp [ho, Op.operands]))
theorem Evl_and (c x y : Operand) (q s : Bool) (ho : o.op = .pick c x y) (hc : ρ c = .x (.bool q)) (hx : ρ x = .g q (.x (.bool s))) (hy : ρ y = .x (.bool false)) : Evl P o ρ H (.x (.bool (q && s))) := by
  refine Evl_pick c x y q _ ho hc (fun hq V w v h => ?_) (fun hq V w v h => ?_)
  · rw [hx, Den] at h
    have := h.1 hq
    rw [Den] at this ⊢
    rw [this, hq]; rfl
  · rw [hy, Den] at h; rw [hq, Den, h]; rfl
theorem Evl_or (c x y : Operand) (q s : Bool) (ho : o.op = .pick c x y) (hc : ρ c = .x (.bool q)) (hx : ρ y = .g (!q) (.x (.bool s))) (hy : ρ x = .x (.bool true)) : Evl P o ρ H (.x (.bool (q || s))) := by
  refine Evl_pick c x y q _ ho hc (fun hq V w v h => ?_) (fun hq V w v h => ?_)
  · rw [hy, Den] at h; rw [hq, Den, h]; rfl
  · rw [hx, Den] at h
    have := h.1 (by rw [hq]; rfl)
    rw [Den] at this ⊢
    rw [this, hq]; rfl
theorem Evl_and' (c x y : Operand) (q s : Bool) (ho : o.op = .pick c x y) (hc : ρ c = .x (.bool q)) (hx : ρ x = str (.g q (.x (.bool s)))) (hy : ρ y = .x (.bool false)) : Evl P o ρ H (.x (.bool (q && s))) := by
  refine Evl_pick c x y q _ ho hc (fun hq V w v h => ?_) (fun hq V w v h => ?_)
  · subst hq
    rw [hx] at h
    simp only [str, Den] at h ⊢
    rw [h]; rfl
  · rw [hy, Den] at h; rw [hq, Den, h]; rfl
theorem Evl_or' (c x y : Operand) (q s : Bool) (ho : o.op = .pick c x y) (hc : ρ c = .x (.bool q)) (hx : ρ y = str (.g (!q) (.x (.bool s)))) (hy : ρ x = .x (.bool true)) : Evl P o ρ H (.x (.bool (q || s))) := by
  refine Evl_pick c x y q _ ho hc (fun hq V w v h => ?_) (fun hq V w v h => ?_)
  · rw [hy, Den] at h; rw [hq, Den, h]; rfl
  · subst hq
    rw [hx] at h
    simp only [Bool.not_false, str, Den] at h ⊢
    rw [h]; rfl
theorem Evl_pickf (c x y : Operand) (ho : o.op = .pick c x y) (hc : ρ c = .x (.bool false)) : Evl P o ρ H (str (ρ y)) := Evl_pick c x y false _ ho hc (fun h => by cases h) fun _ _ _ _ h => h.str
theorem Evl_pickt (c x y : Operand) (ho : o.op = .pick c x y) (hc : ρ c = .x (.bool true)) : Evl P o ρ H (str (ρ x)) := Evl_pick c x y true _ ho hc (fun _ _ _ _ h => h.str) (fun h => by cases h)
end
end Go.Proofs.YtkhhlmonhapmaaaGreatDoor
