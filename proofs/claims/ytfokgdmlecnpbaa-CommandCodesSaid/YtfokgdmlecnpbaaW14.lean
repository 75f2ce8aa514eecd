import Derived.Test.YtfokgdmlecnpbaaW13
/- A walk over symbolic memory: a region that draws its order, in which the operations that turn memory wait one for the other: one order stands for all. No program in sight. -/
namespace Go.Proofs.Ytfokgdmlecnpbaa
open Go.RowKit
set_option linter.unusedSimpArgs false
set_option linter.unusedVariables false
section
variable {P : Program} {V O : Nat → Prop} {w0 w w' : World} {B H H' D : List Hp} {T T' : List AV} {a a' : Act} {o : Oper} {Q : Post}
/-- What an operation leaves behind is its result put into its slot (or a deferred call more). -/
theorem wp_put {Kc : Act → World → Prop} {Qc : Exit → Act → World → Prop} (h : o.wp P a w (fun a' w' => ((∃ v, a' = a.put o.dst v) ∨ a'.defers ≠ []) → Kc a' w') Qc) : o.wp P a w Kc Qc := by
  unfold Oper.wp at *
  generalize (execOp a.eval o).run P w = r at *
  cases r with
  | ok n w1 =>
    cases n <;> simp only [Oper.upon] at h ⊢
    case value u => exact h (.inl ⟨u, rfl⟩)
    case skip => exact h (.inl ⟨_, rfl⟩)
    case defer d => exact h (.inr (by cases hd : o.dst <;> simp [Act.put]))
    case enter f args =>
      refine Calls.mono h fun e w2 he => ?_
      cases e with
      | returned u => exact he (.inl ⟨u, rfl⟩)
      | panicked c => exact he
      | outgrown => exact he
    case row row args => exact Rows.mono h fun u w2 he => he (.inl ⟨u, rfl⟩)
  | halt x w1 => cases x <;> simp only [Oper.upon] at h ⊢; exact h
/-- T, but for the slots at which one does not look. -/
def msk (ks : List Nat) : Nat → List AV → List AV
  | _, [] => []
  | n, v :: T => (if ks.contains n then v else .top) :: msk ks (n + 1) T
theorem msk_get (ks : List Nat) : ∀ (T : List AV) (n t : Nat), (msk ks n T)[t]? = (T[t]?).map fun v => if ks.contains (n + t) then v else .top
  | [], n, t => by simp [msk]
  | v :: T, n, 0 => by simp [msk]
  | v :: T, n, t + 1 => by
    simp only [msk, List.getElem?_cons_succ]
    rw [msk_get ks T (n + 1) t, show n + 1 + t = n + (t + 1) by omega]
theorem msk_len (ks : List Nat) (n : Nat) (T : List AV) : (msk ks n T).length = T.length := by
  induction T generalizing n with
  | nil => rfl
  | cons v T ih => simp [msk, ih]
/-- A loud operation, of whose slots only those that it looks at are as in T. -/
theorem stp_masked {ks : List Nat} {M : AV → List Hp → Prop} {TS : List AV} (h : Stp P o (msk ks 0 T) H (fun T' H' => ∃ e, T' = putT (msk ks 0 T) o.dst e ∧ M e H')) (hl : TS.length = T.length) (hk : ∀ t, ks.contains t = true → TS[t]? = T[t]?) (hdst : ∀ d, o.dst = some d → d < T.length)
    (r : Rel V O w0 (B ++ H) TS a w) (Kc : Act → World → Prop) (Qc : Exit → Act → World → Prop) (hK : ∀ e H' v w', M e H' → Rel V O w0 (B ++ H') (putT TS o.dst e) (a.put o.dst v) w' → Kc (a.put o.dst v) w') : o.wp P a w Kc Qc := by
  have ra := r.aside
  have rm : Rel (fun k => V k ∨ blks B k) (blks H) w H (msk ks 0 T) a w := { ra with
    tmps := DenL.of (by rw [msk_len, ← hl]; exact ra.tmps.len) fun t av u h1 h2 => by
      rw [msk_get, Nat.zero_add] at h1
      cases hT : T[t]? with
      | none => rw [hT] at h1; cases h1
      | some v =>
        rw [hT] at h1
        simp only [Option.map_some, Option.some.injEq] at h1
        subst h1
        split
        · rename_i hc; exact ra.tmps.get' t v u (by rw [hk t hc]; exact hT) h2
        · rw [Den]; trivial }
  refine wp_put (h _ _ _ a w _ Qc rm ?_)
  rintro T' H' a' w' ⟨e, rfl, hm⟩ r' hput
  rcases hput with ⟨v, rfl⟩ | hd
  case inr => exact absurd r'.defers hd
  obtain ⟨rj, hs⟩ := r.rejoin r'
  have hF : ∀ k, FB V (B ++ H') k → FB V (B ++ H) k ∨ w.heap.size ≤ k := fun k hk => by
    rcases (FB_app B H' k).2 hk with hk | ⟨x, hx, e⟩
    · exact .inl ((FB_app B H k).1 (.inl hk))
    · rcases r'.own x hx k e with ⟨y, hy, e'⟩ | h
      · exact .inl ((FB_app B H k).1 (.inr ⟨y, hy, e'⟩))
      · exact .inr h
  have hw : ∀ k, k < w.heap.size → ¬ FB V (B ++ H) k → w'.heap[k]? = w.heap[k]? := fun k hk hn => r'.fr.block k hk fun ⟨y, hy, e⟩ => hn (.inr ⟨y, by simp [hy], e⟩)
  have r2 : Rel V O w0 (B ++ H') TS a w' := { rj with tmps := DenL.conv hF hw _ _ r.tmps, defers := r.defers }
  refine hK e H' v w' hm ?_
  cases hd : o.dst with
  | none => simp only [Act.put, putT]; exact r2
  | some d =>
    rw [hd] at rj
    have hlt := hdst d hd
    have h1 : (putT (msk ks 0 T) (some d) e)[d]? = some e := putT_eq (by rw [msk_len]; exact hlt)
    have h2 : (a.put (some d) v).tmps.toList[d]? = some v := by
      have hal : d < a.tmps.size := by have e := r.tmps.len; rw [Array.length_toList] at e; rw [e, hl]; exact hlt
      simp [Act.put, hal]
    exact r2.put (some d) (rj.tmps.get' d e v h1 h2)
end
/-! ### One order for all -/
/-- y lies behind x's edges. -/
def reachB (l : List Oper) : Nat → Nat → Nat → Bool
  | 0, _, _ => false
  | n + 1, x, y => match l[x]? with
    | some o => o.after.toList.any fun e => e.on == y || reachB l n e.on y
    | none => false
theorem reach_S {l : List Oper} {S : Nat → Bool} (hcl : ∀ (j : Nat) (q : Oper), l[j]? = some q → S j = true → ∀ e ∈ q.after, S e.on = true) : ∀ (n x y : Nat) (o : Oper), l[x]? = some o → (∀ e ∈ o.after, S e.on = true) → reachB l n x y = true → S y = true
  | 0, _, _, _, _, _, h => by simp [reachB] at h
  | n + 1, x, y, o, hx, ha, h => by
    simp only [reachB, hx, List.any_eq_true, Bool.or_eq_true, beq_iff_eq] at h
    obtain ⟨e, he, h⟩ := h
    have he' : e ∈ o.after := by simpa using he
    rcases h with rfl | h
    · exact ha e he'
    · have hS := ha e he'
      cases n with
      | zero => simp [reachB] at h
      | succ n =>
        cases hq : l[e.on]? with
        | none => simp [reachB, hq] at h
        | some q => exact reach_S hcl (n + 1) e.on y q hq (hcl e.on q hq hS) h
/-- What is asked of the order: it names each operation once (but those of D, which wait for all, and the alloc n0, which waits for none); each comes behind what it waits for; and behind a loud one come only those that wait for it. -/
def mixOk (l : List Oper) (pi L D : List Nat) (n0 : Option Nat) : Bool :=
  regOk l && (List.range l.length).all (fun i => pi.contains i || D.contains i || n0 == some i) &&
  pi.all (fun i => decide (i < l.length) && !D.contains i && n0 != some i) && decide pi.Nodup &&
  D.all (fun d => decide (d < l.length) && n0 != some d && (List.range l.length).all fun i => D.contains i || reachB l l.length d i) &&
  (match n0 with | some i => (match l[i]? with | some o => o.after.isEmpty && o.guard.isNone | none => false) | none => true) &&
  (List.range pi.length).all (fun k => match pi[k]? with
    | some i => (match l[i]? with
      | some o => o.guard.isNone && (o.after.toList.all fun e => (pi.take k).contains e.on) && (pi.take k).all fun q => !L.contains q || reachB l l.length i q
      | none => false)
    | none => false)
structure MixOk (l : List Oper) (pi L D : List Nat) (n0 : Option Nat) : Prop where
  reg : RegOk l
  cover : ∀ i, i < l.length → i ∈ pi ∨ i ∈ D ∨ n0 = some i
  inpi : ∀ i ∈ pi, i < l.length ∧ i ∉ D ∧ n0 ≠ some i
  nodup : pi.Nodup
  dlt : ∀ d ∈ D, d < l.length ∧ n0 ≠ some d
  dall : ∀ d ∈ D, ∀ i, i < l.length → i ∈ D ∨ reachB l l.length d i = true
  alloc : ∀ i, n0 = some i → ∃ o, l[i]? = some o ∧ (∀ e, e ∉ o.after) ∧ o.guard = none
  ops : ∀ k i, pi[k]? = some i → ∃ o, l[i]? = some o ∧ o.guard = none ∧ (∀ e ∈ o.after, e.on ∈ pi.take k) ∧ ∀ q ∈ pi.take k, q ∈ L → reachB l l.length i q = true
theorem mixOk_of {l : List Oper} {pi L D : List Nat} {n0 : Option Nat} (h : mixOk l pi L D n0 = true) : MixOk l pi L D n0 := by
  unfold mixOk at h
  simp only [Bool.and_eq_true] at h
  obtain ⟨⟨⟨⟨⟨⟨h1, h2⟩, h3⟩, h4⟩, h5⟩, h6⟩, h7⟩ := h
  refine ⟨regOk_of h1, fun i hi => ?_, fun i hi => ?_, of_decide_eq_true h4, fun d hd => ?_, fun d hd i hi => ?_, fun i hi => ?_, fun k i hk => ?_⟩
  · have := List.all_eq_true.1 h2 i (List.mem_range.2 hi)
    simpa [or_assoc] using this
  · have := List.all_eq_true.1 h3 i hi
    simp at this
    exact ⟨this.1.1, this.1.2, this.2⟩
  · have := List.all_eq_true.1 h5 d hd
    simp only [Bool.and_eq_true, decide_eq_true_eq, bne_iff_ne] at this
    exact this.1
  · have := List.all_eq_true.1 h5 d hd
    simp only [Bool.and_eq_true] at this
    have := List.all_eq_true.1 this.2 i (List.mem_range.2 hi)
    simpa using this
  · subst hi
    simp only at h6
    cases ho : l[i]? with
    | none => simp [ho] at h6
    | some o =>
      simp only [ho, Bool.and_eq_true, Option.isNone_iff_eq_none] at h6
      refine ⟨o, rfl, fun e he => ?_, h6.2⟩
      have := h6.1
      rw [Array.isEmpty_iff] at this
      rw [this] at he; simp at he
  · have hkl : k < pi.length := (List.getElem?_eq_some_iff.1 hk).1
    have := List.all_eq_true.1 h7 k (List.mem_range.2 hkl)
    rw [hk] at this
    simp only at this
    cases ho : l[i]? with
    | none => simp [ho] at this
    | some o =>
      simp only [ho, Bool.and_eq_true, Option.isNone_iff_eq_none, List.all_eq_true] at this
      obtain ⟨⟨g1, g2⟩, g3⟩ := this
      refine ⟨o, rfl, g1, fun e he => ?_, fun q hq hL => ?_⟩
      · have := g2 e (by simpa using he)
        simpa using this
      · have := g3 q hq
        simpa [hL] using this
/-- The operations in that order; B: blocks that none of them turns. -/
def dm (P : Program) (B : List Hp) (l : List Oper) (L : List Nat) : List Nat → List AV → List Hp → (List AV → List Hp → Prop) → Prop
  | [], T, H, fin => fin T H
  | i :: pi, T, H, fin => ∃ o, nthO l i = some o ∧ ((L.contains i = false ∧ ∃ e, (∀ H1, Evl P o (ev T) (B ++ H1) e) ∧ dm P B l L pi (putT T o.dst e) H fin) ∨
      (L.contains i = true ∧ Stp P o (msk (looks l o) 0 T) H (fun T' H' => ∃ e, T' = putT (msk (looks l o) 0 T) o.dst e ∧ dm P B l L pi (putT T o.dst e) H' fin)))
section
variable {P : Program} {B : List Hp} {l : List Oper} {L : List Nat} {fin : List AV → List Hp → Prop} {T : List AV} {H : List Hp}
theorem dm_quiet {i : Nat} {pi : List Nat} {o : Oper} {T' : List AV} (hi : nthO l i = some o) (hL : L.contains i = false) (e : AV) (h : ∀ H1, Evl P o (ev T) (B ++ H1) e) (hT : putT T o.dst e = T') (hK : dm P B l L pi T' H fin) : dm P B l L (i :: pi) T H fin := ⟨o, hi, .inl ⟨hL, e, h, hT ▸ hK⟩⟩
theorem dm_loud {i : Nat} {pi : List Nat} {o : Oper} (hi : nthO l i = some o) (hL : L.contains i = true) (h : Stp P o (msk (looks l o) 0 T) H (fun T' H' => ∃ e, T' = putT (msk (looks l o) 0 T) o.dst e ∧ dm P B l L pi (putT T o.dst e) H' fin)) : dm P B l L (i :: pi) T H fin := ⟨o, hi, .inr ⟨hL, h⟩⟩
theorem dm_cong {pi : List Nat} {T' : List AV} {H' : List Hp} (hT : T = T') (hH : H = H') (h : dm P B l L pi T' H' fin) : dm P B l L pi T H fin := hT ▸ hH ▸ h
theorem lisT_congr (l : List Oper) (es es' : Nat → AV) (T : List AV) (S : Nat → Bool) : ∀ k, (∀ j, j < k → S j = true → es j = es' j) → lisT l es T S k = lisT l es' T S k
  | 0, _ => rfl
  | k + 1, h => by
    simp only [lisT]
    rw [lisT_congr l es es' T S k fun j hj => h j (by omega)]
    split
    · rename_i hs; rw [h k (by omega) hs]
    · rfl
/-- What an operation sees, when it may come up, is what it sees in the given order. -/
theorem lis_two {l : List Oper} (hr : RegOk l) (es : Nat → AV) (T0 : List AV) (S S' : Nat → Bool) (i : Nat) (o : Oper) (hi : l[i]? = some o) (h1 : S i = false) (h2 : S' i = false) (a1 : ∀ e ∈ o.after, S e.on = true) (a2 : ∀ e ∈ o.after, S' e.on = true)
    (c1 : ∀ (j : Nat) (q : Oper), l[j]? = some q → S j = true → ∀ e ∈ q.after, e.on ≠ i) (c2 : ∀ (j : Nat) (q : Oper), l[j]? = some q → S' j = true → ∀ e ∈ q.after, e.on ≠ i) (t : Nat) (ht : t ∈ looks l o) :
    (lisT l es T0 S l.length)[t]? = (lisT l es T0 S' l.length)[t]? := by
  by_cases hlt : t < T0.length
  · by_cases hw : ∃ (j : Nat) (q : Oper), l[j]? = some q ∧ q.dst = some t
    · obtain ⟨j, q, hj, hq⟩ := hw
      have hjl := (List.getElem?_eq_some_iff.1 hj).1
      have huniq : ∀ k, k ≠ j → (l[k]?).bind (·.dst) ≠ some t := fun k hk hb => by
        obtain ⟨q', hk', hq'⟩ := bind_dst hb
        exact hk (hr.one k j q' q t hk' hj hq' hq)
      have hdj : (l[j]?).bind (·.dst) = some t := by rw [hj]; exact hq
      have off : ∀ X : Nat → Bool, X j = false → (lisT l es T0 X l.length)[t]? = T0[t]? := fun X hX => lisT_none l es T0 X t _ fun k hk hs hb => by
        by_cases hkj : k = j
        · subst hkj; rw [hX] at hs; cases hs
        · exact huniq k hkj hb
      rcases hr.look i j o q t hi hj ht hq with rfl | ⟨e, he, rfl⟩ | ⟨e, he, rfl⟩
      · rw [off S h1, off S' h2]
      · rw [lisT_one l es T0 S t hlt _ (a1 e he) hdj huniq _ hjl, lisT_one l es T0 S' t hlt _ (a2 e he) hdj huniq _ hjl]
      · have n1 : S j = false := by
          cases hs : S j with
          | false => rfl
          | true => exact absurd rfl (c1 j q hj hs e he)
        have n2 : S' j = false := by
          cases hs : S' j with
          | false => rfl
          | true => exact absurd rfl (c2 j q hj hs e he)
        rw [off S n1, off S' n2]
    · have hn : ∀ k : Nat, (l[k]?).bind (·.dst) ≠ some t := fun k hb => by
        obtain ⟨q', hk', hq'⟩ := bind_dst hb
        exact hw ⟨k, q', hk', hq'⟩
      rw [lisT_none _ _ _ _ _ _ fun k _ _ => hn k, lisT_none _ _ _ _ _ _ fun k _ _ => hn k]
  · rw [List.getElem?_eq_none (by rw [lisT_len]; omega), List.getElem?_eq_none (by rw [lisT_len]; omega)]
theorem looks_op {l : List Oper} {o : Oper} {t : Nat} (h : Operand.tmp t ∈ o.op.operands) : t ∈ looks l o := by
  unfold looks
  exact List.mem_append_left _ (List.mem_filterMap.2 ⟨.tmp t, by simpa using h, rfl⟩)
end
end Go.Proofs.Ytfokgdmlecnpbaa
/- A walk over symbolic memory: the one order stands for all (the proof). No program in sight. -/
namespace Go.Proofs.Ytfokgdmlecnpbaa
open Go.RowKit
set_option linter.unusedSimpArgs false
set_option linter.unusedVariables false
section
variable {P : Program} {B : List Hp} {l : List Oper} {L D pi : List Nat} {n0 : Option Nat} {z : List AV} {T0 : List AV} {Q : Post} {fin : List AV → List Hp → Prop}
theorem lisT_S (l : List Oper) (es : Nat → AV) (T : List AV) (S S' : Nat → Bool) : ∀ k, (∀ j, j < k → S j = S' j) → lisT l es T S k = lisT l es T S' k
  | 0, _ => rfl
  | k + 1, h => by
    simp only [lisT]
    rw [lisT_S l es T S S' k fun j hj => h j (by omega), h k (by omega)]
/-- What the given order has shown so far. -/
structure DI (P : Program) (B : List Hp) (l : List Oper) (L pi : List Nat) (T0 : List AV) (pd rest : List Nat) (es : Nat → AV) (T : List AV) : Prop where
  split : pi = pd ++ rest
  eq : T = lisT l es T0 (fun j => pd.contains j) l.length
  quiet : ∀ (k i : Nat) (o : Oper), pd[k]? = some i → i ∉ L → l[i]? = some o → ∀ H1, Evl P o (ev (lisT l es T0 (fun j => (pd.take k).contains j) l.length)) (B ++ H1) (es i)
def upd (es : Nat → AV) (i : Nat) (e : AV) : Nat → AV := fun j => if j = i then e else es j
theorem DI.es {pd rest : List Nat} {es es' : Nat → AV} {T : List AV} (h : DI P B l L pi T0 pd rest es T) (he : ∀ j ∈ pd, es' j = es j) : DI P B l L pi T0 pd rest es' T where
  split := h.split
  eq := by rw [h.eq]; exact lisT_congr l _ _ _ _ _ fun j _ hj => (he j (by simpa using hj)).symm
  quiet := fun k i o hk hL ho H1 => by
    have := h.quiet k i o hk hL ho H1
    rw [he i (List.mem_of_getElem? hk)]
    rwa [lisT_congr l es' es T0 _ _ fun j _ hj => he j (List.mem_of_mem_take (by simpa using hj))]
theorem DI.push (ok : MixOk l pi L D n0) {pd rest : List Nat} {es : Nat → AV} {T : List AV} {i : Nat} {o : Oper} (h : DI P B l L pi T0 pd (i :: rest) es T) (ho : l[i]? = some o) (e : AV) (hq : i ∉ L → ∀ H1, Evl P o (ev T) (B ++ H1) e) :
    DI P B l L pi T0 (pd ++ [i]) rest (upd es i e) (putT T o.dst e) := by
  have hn := ok.nodup
  rw [h.split] at hn
  have hip : i ∉ pd := fun hm => (List.nodup_append.1 hn).2.2 i hm i (by simp) rfl
  have hes : ∀ j ∈ pd, upd es i e j = es j := fun j hj => by unfold upd; rw [if_neg (by rintro rfl; exact hip hj)]
  have h' := h.es hes
  refine ⟨by rw [h.split]; simp, ?_, fun k j q hk hL hj H1 => ?_⟩
  · rw [h'.eq]
    have hp := lis_put ok.reg (upd es i e) T0 (fun j => pd.contains j) (fun j => (pd ++ [i]).contains j) i o ho (by simpa using hip) (by simp) (fun j hj => by simp [hj])
    rw [show upd es i e i = e by simp [upd]] at hp
    exact hp
  · by_cases hlt : k < pd.length
    · rw [List.getElem?_append_left hlt] at hk
      have := h'.quiet k j q hk hL hj H1
      rwa [List.take_append_of_le_length (by omega)]
    · have hlen := (List.getElem?_eq_some_iff.1 hk).1
      simp only [List.length_append, List.length_cons, List.length_nil] at hlen
      have hkk : k = pd.length := by omega
      subst hkk
      rw [List.getElem?_append_right (Nat.le_refl _)] at hk
      simp at hk
      subst hk
      rw [ho] at hj; cases hj
      have := hq hL H1
      rw [h'.eq] at this
      rw [List.take_left' rfl]
      simpa [upd] using this
theorem absorb (ok : MixOk l pi L D n0) : ∀ (rest pd : List Nat) (es : Nat → AV) (T : List AV) (H : List Hp), DI P B l L pi T0 pd rest es T → dm P B l L rest T H fin →
    ∃ q rest' es' T', rest = q ++ rest' ∧ DI P B l L pi T0 (pd ++ q) rest' es' T' ∧ dm P B l L rest' T' H fin ∧ (rest' = [] ∨ ∃ i r, rest' = i :: r ∧ i ∈ L) ∧ (∀ j, j ∉ q → es' j = es j) ∧ ∀ j ∈ q, j ∉ L
  | [], pd, es, T, H, h, d => ⟨[], [], es, T, rfl, by simpa using h, d, .inl rfl, fun _ _ => rfl, by simp⟩
  | i :: rest, pd, es, T, H, h, d => by
    have d0 := d
    obtain ⟨o, ho, hh⟩ := d
    rw [nthO_eq] at ho
    rcases hh with ⟨hL, e, hE, hd⟩ | ⟨hL, _⟩
    · have hL' : i ∉ L := by simpa using hL
      obtain ⟨q, rest', es', T', h1, h2, h3, h4, h5, h6⟩ := absorb ok rest (pd ++ [i]) _ _ H (h.push ok ho e fun _ => hE) hd
      refine ⟨i :: q, rest', es', T', by rw [h1]; rfl, by simpa using h2, h3, h4, fun j hj => ?_, fun j hj => ?_⟩
      · simp only [List.mem_cons, not_or] at hj
        rw [h5 j hj.2]; unfold upd; rw [if_neg hj.1]
      · rcases List.mem_cons.1 hj with rfl | hj
        · exact hL'
        · exact h6 j hj
    · exact ⟨[], i :: rest, es, T, rfl, by simpa using h, d0, .inr ⟨i, rest, rfl, by simpa using hL⟩, fun _ _ => rfl, by simp⟩
theorem ready_nil {listed : Array Bool} (hr : RegOk l) (hsz : listed.size = l.length) (hnil : Region.ready .any l.toArray listed = []) : ∀ j, j < l.length → listed.getD j false = true := by
  intro j
  induction j using Nat.strongRecOn with
  | _ j ihj =>
    intro hj
    cases hs : listed.getD j false with
    | true => rfl
    | false =>
      exfalso
      have hget : listed.getD j true = listed.getD j false := by
        have hi' : j < listed.size := by omega
        simp [Array.getD, hi']
      have hlj : l[j]? = some l[j] := by simp [hj]
      have : j ∈ Region.ready .any l.toArray listed := by
        rw [mem_ready]
        exact ⟨by rw [hget, hs], l[j], by simp [hj], fun e he hb => ihj e.on (hr.after j _ hlj e he).2 (by have := (hr.after j _ hlj e he).2; omega)⟩
      rw [hnil] at this; cases this
/-- All but those of D. -/
def allBut (n : Nat) (D : List Nat) : Array Bool := ((List.range n).map fun i => !D.contains i).toArray
def finM (P : Program) (B : List Hp) (l : List Oper) (D : List Nat) (n0 : Option Nat) (z : List AV) (Q : Post) (k : Nat) (T : List AV) (H : List Hp) : Prop :=
  match n0 with
  | none => awpA P l.toArray Q k (allBut l.length D) T (B ++ H)
  | some i => ∀ b, awpA P l.toArray Q k (allBut l.length D) (putT T ((nthO l i).bind (·.dst)) (.x (.pointer (some ⟨b, 0, none⟩)))) (B ++ (.box b z :: H))
theorem cnt_S (S S' : Nat → Bool) : ∀ k, (∀ j, j < k → S j = S' j) → cnt S k = cnt S' k
  | 0, _ => rfl
  | k + 1, h => by simp only [cnt]; rw [cnt_S S S' k fun j hj => h j (by omega), h k (by omega)]
theorem cnt_set (S S' : Nat → Bool) (i : Nat) (h1 : S i = false) (h2 : S' i = true) (h : ∀ j, j ≠ i → S' j = S j) : ∀ k, i < k → cnt S k = cnt S' k + 1
  | 0, hk => by omega
  | k + 1, hk => by
    simp only [cnt]
    by_cases hik : i = k
    · subst hik
      rw [cnt_S S S' i fun j hj => (h j (by omega)).symm]; simp [h1, h2]
    · rw [cnt_set S S' i h1 h2 h k (by omega), h k (by omega)]; omega
end
end Go.Proofs.Ytfokgdmlecnpbaa
