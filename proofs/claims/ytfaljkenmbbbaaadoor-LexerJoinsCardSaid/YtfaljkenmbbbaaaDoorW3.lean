import Derived.Test.YtfaljkenmbbbaaaDoorW2
import Derived.Test.YtfaljkenmbbbaaaDoorW1
import Derived.ScopeJumps
/- A walk over symbolic memory: quiet calls, regions that draw their order. No program in sight. -/
namespace Go.Proofs.YtfaljkenmbbbaaaDoor
open Go.RowKit
set_option linter.unusedSimpArgs false
set_option linter.unusedVariables false
section
variable {P : Program} {V O : Nat → Prop} {w0 w w' : World} {H H' D : List Hp} {T T' : List AV} {a : Act} {o : Oper} {K : List AV → List Hp → Prop} {ρ : Operand → AV} {ops : Array Oper} {Q : Post}
theorem denL_ops (r : OK V H ρ o a w) : ∀ l : List Operand, (∀ x ∈ l, x ∈ o.op.operands) → DenL (FB V H) w (l.map ρ) (l.map a.eval)
  | [], _ => by simp [DenL]
  | x :: l, h => by simp only [List.map_cons]; rw [DenL]; exact ⟨_, _, rfl, r.ops x (h x (by simp)), denL_ops r l fun y hy => h y (by simp [hy])⟩
/-- A call of a function that needs no block of the caller's, and whose result one knows. -/
theorem Evl_call {c : Operand} {args : Array Operand} {tys : Array TypeId} {fs cs : Array Value} (f : FuncId) (fn : Func) (avs : List AV) (res : AV) (ho : o.op = .call { callee := .value c, args := args, argTypes := tys }) (hc : ρ c = .x (.func (.func f) fs cs))
    (hf : P.funcs[f]? = some fn) (hn : fn.name ≠ "runtime.NumGoroutine") (hb : fn.body.isSome = true) (hargs : VwL [] (fs.toList.map .x ++ args.toList.map ρ ++ cs.toList.map .x) avs) (hS : Spec P f [] avs fun r H' => r = res ∧ H' = []) : Evl P o ρ H res := by
  intro V a w Kc Qc r hKc
  have hmem : ∀ x ∈ args.toList, x ∈ o.op.operands := fun x hx => by simp [ho, Op.operands, Call.operands]; exact .inr (by simpa using hx)
  have hd : DenL (FB V H) w avs (fs.toList ++ args.toList.map a.eval ++ cs.toList) := hargs.den (fun k hk => hk) (fun h hh => by cases hh) _ ((DenL.exact.app (denL_ops r _ hmem)).app DenL.exact)
  have hFF : ∀ k, FB (FB V H) [] k → FB V H k := fun k hk => by
    rcases hk with hk | ⟨x, hx, _⟩
    · exact hk
    · cases hx
  refine wp_call_of ho (r.evx (by simp [ho, Op.operands, Call.operands]) hc) hf hn hb (vs := (fs.toList ++ args.toList.map a.eval ++ cs.toList).toArray) (by apply Array.toList_inj.1; simp) ?_
  refine (hS (FB V H) w _ (fun k hk => by
    rcases hk with hk | ⟨x, hx, e⟩
    · exact r.vlt k hk
    · exact (r.hok.lt x hx k e).1) ⟨fun x hx => (by cases hx), .nil, fun x hx => (by cases hx)⟩ (hd.weak hFF) ⟨fun k _ ⟨x, hx, _⟩ => (by cases hx), r.gw⟩).mono ?_
  rintro e w' ⟨res', H', v, ⟨rfl, rfl⟩, rfl, hdv, _, hfr, _⟩
  have hE : Ext w w' := ⟨hfr.os, hfr.tape, hfr.output, hfr.size, fun k hk => hfr.block k hk fun ⟨y, hy, _⟩ => by cases hy⟩
  exact ⟨v, rfl, hKc v w' hE (hdv.weak fun k hk => .inl hk)⟩

/-! ### Regions that draw their order -/

/-- An operation of such a region, in the order of the text. -/
def Ent (P : Program) (ops : Array Oper) (o : Oper) (T : List AV) (H : List Hp) (e : AV) : Prop :=
  (o.guard = none ∧ Evl P o (ev T) H e) ∨ ∃ j want t p av, o.guard = some (j, want) ∧ (ops[j]?).bind (·.dst) = some t ∧ gdc want (T.getD t .top) = some p ∧ e = .g p av ∧ (p = true → Evl P o (evs T) H av)
/-- The operations one after the other; fin holds at the end. -/
def dr (P : Program) (H : List Hp) (ops : Array Oper) : List Oper → List AV → (List AV → Prop) → Prop
  | [], T, fin => fin T
  | o :: rest, T, fin => ∃ e, Ent P ops o T H e ∧ dr P H ops rest (putT T o.dst e) fin
theorem dr_nil {fin : List AV → Prop} (h : fin T) : dr P H ops [] T fin := h
theorem dr_evl {rest : List Oper} {fin : List AV → Prop} (hg : o.guard = none) (av : AV) (h : Evl P o (ev T) H av) (hK : dr P H ops rest (putT T o.dst av) fin) : dr P H ops (o :: rest) T fin := ⟨av, .inl ⟨hg, h⟩, hK⟩
theorem dr_g {rest : List Oper} {fin : List AV → Prop} {j : Nat} {want : Bool} {t : Nat} (p : Bool) (av : AV) (hg : o.guard = some (j, want)) (hd : (ops[j]?).bind (·.dst) = some t) (hp : gdc want (T.getD t .top) = some p)
    (h : p = true → Evl P o (evs T) H av) (hK : dr P H ops rest (putT T o.dst (.g p av)) fin) : dr P H ops (o :: rest) T fin := ⟨_, .inr ⟨j, want, t, p, av, hg, hd, hp, rfl, h⟩, hK⟩
/-- The slots at which an operation looks. -/
def looks (ops : List Oper) (o : Oper) : List Nat :=
  (o.op.operands.toList.filterMap fun | .tmp t => some t | _ => none) ++ (match o.guard with | some (j, _) => ((ops[j]?).bind (·.dst)).toList | none => [])
/-- Each slot is written once; what an operation looks at is written ahead of it, or behind it. -/
def regOk (l : List Oper) : Bool :=
  (l.zipIdx.all fun (o, i) => o.after.toList.all fun e => Region.binds .any e && decide (e.on < i)) &&
  (l.zipIdx.all fun (o, i) => l.zipIdx.all fun (q, j) => q.dst.isNone || i == j || q.dst != o.dst) &&
  (l.zipIdx.all fun (o, i) => (looks l o).all fun t => l.zipIdx.all fun (q, j) => q.dst != some t || i == j || o.after.toList.any (·.on == j) || q.after.toList.any (·.on == i))
/-- T, with what the first k operations write. -/
def seqT (l : List Oper) (es : Nat → AV) (T : List AV) : Nat → List AV
  | 0 => T
  | k + 1 => putT (seqT l es T k) ((l[k]?).bind (·.dst)) (es k)
/-- T, with what the listed operations write. -/
def lisT (l : List Oper) (es : Nat → AV) (T : List AV) (S : Nat → Bool) : Nat → List AV
  | 0 => T
  | k + 1 => if S k then putT (lisT l es T S k) ((l[k]?).bind (·.dst)) (es k) else lisT l es T S k
theorem putT_len (T : List AV) (d : Option Tmp) (av : AV) : (putT T d av).length = T.length := by cases d <;> simp [putT]
theorem lisT_len (l : List Oper) (es : Nat → AV) (T : List AV) (S : Nat → Bool) (k : Nat) : (lisT l es T S k).length = T.length := by
  induction k with
  | zero => rfl
  | succ k ih => simp only [lisT]; split <;> simp [putT_len, ih]
theorem putT_ne {T : List AV} {d : Option Tmp} {av : AV} {t : Nat} (h : d ≠ some t) : (putT T d av)[t]? = T[t]? := by
  cases d with
  | none => rfl
  | some d => simp only [putT]; rw [List.getElem?_set_ne]; exact fun e => h (by rw [e])
theorem putT_eq {T : List AV} {av : AV} {t : Nat} (h : t < T.length) : (putT T (some t) av)[t]? = some av := by simp [putT, h]
/-- A slot that none of the listed ones writes. -/
theorem lisT_none (l : List Oper) (es : Nat → AV) (T : List AV) (S : Nat → Bool) (t : Nat) : ∀ k, (∀ j, j < k → S j = true → (l[j]?).bind (·.dst) ≠ some t) → (lisT l es T S k)[t]? = T[t]?
  | 0, _ => rfl
  | k + 1, h => by
    simp only [lisT]
    have ih := lisT_none l es T S t k fun j hj => h j (by omega)
    split
    · rename_i hs; rw [putT_ne (h k (by omega) hs)]; exact ih
    · exact ih
/-- A slot that just one writes, and that one is listed. -/
theorem lisT_one (l : List Oper) (es : Nat → AV) (T : List AV) (S : Nat → Bool) (t : Nat) (ht : t < T.length) (j : Nat) (hS : S j = true) (hd : (l[j]?).bind (·.dst) = some t) (hu : ∀ i, i ≠ j → (l[i]?).bind (·.dst) ≠ some t) :
    ∀ k, j < k → (lisT l es T S k)[t]? = some (es j)
  | 0, h => by omega
  | k + 1, h => by
    simp only [lisT]
    by_cases hk : j = k
    · subst hk
      rw [if_pos hS, hd]
      exact putT_eq (by rw [lisT_len]; exact ht)
    · have ih := lisT_one l es T S t ht j hS hd hu k (by omega)
      split
      · rw [putT_ne (hu k (fun e => hk e.symm))]; exact ih
      · exact ih
theorem seqT_lis (l : List Oper) (es : Nat → AV) (T : List AV) (S : Nat → Bool) : ∀ k, (∀ j, j < k → S j = true) → lisT l es T S k = seqT l es T k
  | 0, _ => rfl
  | k + 1, h => by simp only [lisT, seqT]; rw [if_pos (h k (by omega)), seqT_lis l es T S k fun j hj => h j (by omega)]
/-- The operations' results, by their places. -/
theorem dr_es {fin : List AV → Prop} (l : List Oper) (T0 : List AV) : ∀ (rest : List Oper) (k : Nat) (es : Nat → AV), l.drop k = rest → dr P H ops rest (seqT l es T0 k) fin →
    ∃ es' : Nat → AV, (∀ j, j < k → es' j = es j) ∧ (∀ j o, k ≤ j → l[j]? = some o → Ent P ops o (seqT l es' T0 j) H (es' j)) ∧ fin (seqT l es' T0 l.length)
  | [], k, es, hl, h => by
    have hk : l.length ≤ k := by simpa using hl
    refine ⟨es, fun _ _ => rfl, fun j o hj hjo => ?_, ?_⟩
    · have := (List.getElem?_eq_some_iff.1 hjo).1; omega
    · simp only [dr] at h
      have : seqT l es T0 k = seqT l es T0 l.length := by
        clear h hl
        induction k with
        | zero => have : l.length = 0 := by omega
                  rw [this]
        | succ k ih =>
          by_cases hk2 : l.length ≤ k
          · rw [← ih hk2]; simp [seqT, List.getElem?_eq_none hk2, putT]
          · have : l.length = k + 1 := by omega
            rw [this]
      rw [← this]; exact h
  | o :: rest, k, es, hl, h => by
    simp only [dr] at h
    obtain ⟨e, he, hr⟩ := h
    have hko : l[k]? = some o := by
      have := congrArg (fun x => x[0]?) hl
      simpa using this
    have hsame : ∀ j, j ≤ k → seqT l (fun i => if i = k then e else es i) T0 j = seqT l es T0 j := by
      intro j
      induction j with
      | zero => intro _; rfl
      | succ j ih => intro hj; simp only [seqT]; rw [ih (by omega), if_neg (by omega)]
    obtain ⟨es', h1, h2, h3⟩ := dr_es (fin := fin) l T0 rest (k + 1) (fun i => if i = k then e else es i) (by
      have := congrArg List.tail hl
      simpa [List.tail_drop] using this) (by
      simp only [seqT]
      rw [hsame k (by omega), hko]
      simpa using hr)
    refine ⟨es', fun j hj => by rw [h1 j (by omega)]; simp; omega, fun j o' hj hjo => ?_, h3⟩
    by_cases hjk : j = k
    · subst hjk
      rw [hko] at hjo; cases hjo
      have e1 : es' j = e := by rw [h1 j (by omega)]; simp
      have e2 : seqT l es' T0 j = seqT l es T0 j := by
        have : ∀ i, i ≤ j → seqT l es' T0 i = seqT l es T0 i := by
          intro i
          induction i with
          | zero => intro _; rfl
          | succ i ih => intro hi; simp only [seqT]; rw [ih (by omega), h1 i (by omega), if_neg (by omega)]
        exact this j (Nat.le_refl _)
      rw [e1, e2]; exact he
    · exact h2 j o' (by omega) hjo
/-- How many are not yet listed. -/
def cnt (S : Nat → Bool) : Nat → Nat
  | 0 => 0
  | k + 1 => cnt S k + if S k then 0 else 1
theorem cnt_le (S S' : Nat → Bool) (h : ∀ j, S j = true → S' j = true) : ∀ k, cnt S' k ≤ cnt S k
  | 0 => Nat.le_refl _
  | k + 1 => by
    have := cnt_le S S' h k
    simp only [cnt]
    by_cases hs : S k = true
    · simp [hs, h k hs]; exact this
    · simp [hs]; split <;> omega
theorem cnt_lt (S S' : Nat → Bool) (h : ∀ j, S j = true → S' j = true) (i : Nat) (h1 : S i = false) (h2 : S' i = true) : ∀ k, i < k → cnt S' k < cnt S k
  | 0, hk => by omega
  | k + 1, hk => by
    simp only [cnt]
    by_cases hik : i = k
    · subst hik
      have := cnt_le S S' h i
      simp [h1, h2]; omega
    · have := cnt_lt S S' h i h1 h2 k (by omega)
      by_cases hs : S k = true
      · simp [hs, h k hs]; exact this
      · simp [hs]; split <;> omega
theorem cnt_zero (S : Nat → Bool) : ∀ k, cnt S k = 0 → ∀ j, j < k → S j = true
  | 0, _, j, hj => by omega
  | k + 1, h, j, hj => by
    simp only [cnt] at h
    by_cases hjk : j = k
    · subst hjk
      cases hs : S j with
      | true => rfl
      | false => simp [hs] at h
    · exact cnt_zero S k (by omega) j (by omega)
structure RegOk (l : List Oper) : Prop where
  after : ∀ (i : Nat) (o : Oper), l[i]? = some o → ∀ e ∈ o.after, Region.binds .any e = true ∧ e.on < i
  one : ∀ (i j : Nat) (o q : Oper) (t : Nat), l[i]? = some o → l[j]? = some q → o.dst = some t → q.dst = some t → i = j
  look : ∀ (i j : Nat) (o q : Oper) (t : Nat), l[i]? = some o → l[j]? = some q → t ∈ looks l o → q.dst = some t → i = j ∨ (∃ e ∈ o.after, e.on = j) ∨ ∃ e ∈ q.after, e.on = i
theorem regOk_of {l : List Oper} (h : regOk l = true) : RegOk l := by
  unfold regOk at h
  simp only [Bool.and_eq_true, List.all_eq_true] at h
  obtain ⟨⟨h1, h2⟩, h3⟩ := h
  have hz : ∀ (i : Nat) (o : Oper), l[i]? = some o → (o, i) ∈ l.zipIdx := fun i o hi => by
    rw [List.mem_zipIdx_iff_getElem?]; exact hi
  refine ⟨fun i o hi e he => ?_, fun i j o q t hi hj ho hq => ?_, fun i j o q t hi hj ht hq => ?_⟩
  · have := h1 (o, i) (hz i o hi) e (by simpa using he)
    simpa using this
  · have := h2 (o, i) (hz i o hi) (q, j) (hz j q hj)
    simpa [ho, hq] using this
  · have := h3 (o, i) (hz i o hi) t ht (q, j) (hz j q hj)
    simp [hq] at this
    rcases this with (h | h) | h
    · exact .inl h
    · exact .inr (.inl (by obtain ⟨k, hk, e2⟩ := h; first | exact ⟨_, Array.getElem_mem hk, e2⟩ | exact ⟨k, hk, e2⟩))
    · exact .inr (.inr (by obtain ⟨k, hk, e2⟩ := h; first | exact ⟨_, Array.getElem_mem hk, e2⟩ | exact ⟨k, hk, e2⟩))
theorem bind_dst {l : List Oper} {j t : Nat} (h : (l[j]?).bind (·.dst) = some t) : ∃ q, l[j]? = some q ∧ q.dst = some t := Option.bind_eq_some_iff.1 h
/-- What an operation that may come up sees at the slots at which it looks. -/
theorem lis_seq {l : List Oper} (hr : RegOk l) (es : Nat → AV) (T0 : List AV) (S : Nat → Bool) (hcl : ∀ j q, l[j]? = some q → S j = true → ∀ e ∈ q.after, S e.on = true) (i : Nat) (o : Oper) (hi : l[i]? = some o) (hSi : S i = false) (haf : ∀ e ∈ o.after, S e.on = true) (t : Nat) (ht : t ∈ looks l o) :
    (lisT l es T0 S l.length)[t]? = (seqT l es T0 i)[t]? := by
  by_cases hlt : t < T0.length
  · rw [← seqT_lis l es T0 (fun _ => true) i fun _ _ => rfl]
    by_cases hw : ∃ (j : Nat) (q : Oper), l[j]? = some q ∧ q.dst = some t
    · obtain ⟨j, q, hj, hq⟩ := hw
      have hjl := (List.getElem?_eq_some_iff.1 hj).1
      have huniq : ∀ k, k ≠ j → (l[k]?).bind (·.dst) ≠ some t := fun k hk hb => by
        obtain ⟨q', hk', hq'⟩ := bind_dst hb
        exact hk (hr.one k j q' q t hk' hj hq' hq)
      have hdj : (l[j]?).bind (·.dst) = some t := by rw [hj]; exact hq
      rcases hr.look i j o q t hi hj ht hq with rfl | ⟨e, he, rfl⟩ | ⟨e, he, rfl⟩
      · rw [lisT_none l es T0 S t _ fun k hk hs hb => by
          by_cases hki : k = i
          · subst hki; rw [hSi] at hs; cases hs
          · exact huniq k hki hb, lisT_none l es T0 (fun _ => true) t _ fun k hk hs => huniq k (by omega)]
      · rw [lisT_one l es T0 S t hlt _ (haf e he) hdj huniq _ hjl, lisT_one l es T0 (fun _ => true) t hlt _ rfl hdj huniq _ (hr.after i o hi e he).2]
      · have hSj : S j = false := by
          cases hs : S j with
          | false => rfl
          | true => have := hcl j q hj hs e he; rw [hSi] at this; cases this
        have hji := (hr.after j q hj e he).2
        rw [lisT_none l es T0 S t _ fun k hk hs hb => by
          by_cases hkj : k = j
          · subst hkj; rw [hSj] at hs; cases hs
          · exact huniq k hkj hb, lisT_none l es T0 (fun _ => true) t _ fun k hk hs => huniq k (by omega)]
    · have hn : ∀ k : Nat, (l[k]?).bind (·.dst) ≠ some t := fun k hb => by
        obtain ⟨q', hk', hq'⟩ := bind_dst hb
        exact hw ⟨k, q', hk', hq'⟩
      rw [lisT_none _ _ _ _ _ _ fun k _ _ => hn k, lisT_none _ _ _ _ _ _ fun k _ _ => hn k]
  · have h1 : (lisT l es T0 S l.length).length ≤ t := by rw [lisT_len]; omega
    have h2 : (seqT l es T0 i).length ≤ t := by rw [← seqT_lis l es T0 (fun _ => true) i fun _ _ => rfl, lisT_len]; omega
    rw [List.getElem?_eq_none h1, List.getElem?_eq_none h2]
/-- One more is listed. -/
theorem lis_put {l : List Oper} (hr : RegOk l) (es : Nat → AV) (T0 : List AV) (S S' : Nat → Bool) (i : Nat) (o : Oper) (hi : l[i]? = some o) (hSi : S i = false) (h1 : S' i = true) (h2 : ∀ j, j ≠ i → S' j = S j) :
    putT (lisT l es T0 S l.length) o.dst (es i) = lisT l es T0 S' l.length := by
  apply List.ext_getElem?
  intro t
  have hil := (List.getElem?_eq_some_iff.1 hi).1
  by_cases hlt : t < T0.length
  · by_cases hot : o.dst = some t
    · have huniq : ∀ k, k ≠ i → (l[k]?).bind (·.dst) ≠ some t := fun k hk hb => by
        obtain ⟨q', hk', hq'⟩ := bind_dst hb
        exact hk (hr.one k i q' o t hk' hi hq' hot)
      rw [hot, putT_eq (by rw [lisT_len]; exact hlt), lisT_one l es T0 S' t hlt i h1 (by rw [hi]; exact hot) huniq _ hil]
    · rw [putT_ne hot]
      by_cases hw : ∃ (j : Nat) (q : Oper), l[j]? = some q ∧ q.dst = some t
      · obtain ⟨j, q, hj, hq⟩ := hw
        have hjl := (List.getElem?_eq_some_iff.1 hj).1
        have huniq : ∀ k, k ≠ j → (l[k]?).bind (·.dst) ≠ some t := fun k hk hb => by
          obtain ⟨q', hk', hq'⟩ := bind_dst hb
          exact hk (hr.one k j q' q t hk' hj hq' hq)
        have hdj : (l[j]?).bind (·.dst) = some t := by rw [hj]; exact hq
        have hji : j ≠ i := fun e => by subst e; rw [hi] at hj; cases hj; exact hot hq
        cases hs : S j with
        | true => rw [lisT_one l es T0 S t hlt j hs hdj huniq _ hjl, lisT_one l es T0 S' t hlt j (by rw [h2 j hji]; exact hs) hdj huniq _ hjl]
        | false =>
          rw [lisT_none l es T0 S t _ fun k hk hks hb => ?_, lisT_none l es T0 S' t _ fun k hk hks hb => ?_]
          · by_cases hkj : k = j
            · subst hkj; rw [h2 k hji, hs] at hks; cases hks
            · exact huniq k hkj hb
          · by_cases hkj : k = j
            · subst hkj; rw [hs] at hks; cases hks
            · exact huniq k hkj hb
      · have hn : ∀ k : Nat, (l[k]?).bind (·.dst) ≠ some t := fun k hb => by
          obtain ⟨q', hk', hq'⟩ := bind_dst hb
          exact hw ⟨k, q', hk', hq'⟩
        rw [lisT_none _ _ _ _ _ _ fun k _ _ => hn k, lisT_none _ _ _ _ _ _ fun k _ _ => hn k]
  · rw [List.getElem?_eq_none (by rw [putT_len, lisT_len]; omega), List.getElem?_eq_none (by rw [lisT_len]; omega)]
theorem ev_of {T1 T2 : List AV} {x : Operand} (h : ∀ t, x = .tmp t → T1[t]? = T2[t]?) : ev T1 x = ev T2 x := by
  cases x with
  | tmp t => simp only [ev, List.getD, h t rfl]
  | _ => rfl
/-- A region whose operations are quiet: in whatever order they come, the end is the text's. -/
theorem awp_drawnQ {id : Nat} {l : List Oper} (hm : P.follows .mixedOrders = true) (hc : regOk l = true) (h : dr P H l.toArray l T fun T' => Q .normal T' H) : awp P (.region id l.toArray true) Q T H := by
  have hr := regOk_of hc
  obtain ⟨es, -, hE, hfin⟩ := dr_es (ops := l.toArray) l T l 0 (fun _ => .top) rfl h
  refine awp_drawn hm fun V O w0 a w rel => ?_
  have hfin' : Q .normal (seqT l es T l.length) H := hfin
  have key : ∀ (fuel : Nat) (listed : Array Bool) (a : Act) (w : World), listed.size = l.length →
      (∀ j q, l[j]? = some q → listed.getD j false = true → ∀ e ∈ q.after, listed.getD e.on false = true) → cnt (fun j => listed.getD j false) l.length ≤ fuel →
      Rel V O w0 H (lisT l es T (fun j => listed.getD j false) l.length) a w → wpAny P .any l.toArray (lift V O w0 Q) fuel listed a w := by
    intro fuel
    induction fuel with
    | zero =>
      intro listed a w hsz hcl hcnt rel
      have hall := cnt_zero _ _ (Nat.le_zero.1 hcnt)
      refine ⟨?_, _, H, rel, ?_⟩
      · unfold Region.ready
        rw [List.filter_eq_nil_iff]
        intro i hi
        simp only [List.size_toArray, List.mem_range] at hi
        have := hall i hi
        have hi' : i < listed.size := by omega
        simp [Array.getD, hi'] at this ⊢
        simp [this]
      · rw [seqT_lis l es T _ _ hall]; exact hfin'
    | succ fuel ih =>
      intro listed a w hsz hcl hcnt rel
      have hget : ∀ i, i < l.length → listed.getD i true = listed.getD i false := fun i hi => by
        have hi' : i < listed.size := by omega
        simp [Array.getD, hi']
      refine ⟨fun hnil => ?_, fun i hi => ?_⟩
      · -- all are listed
        have hall : ∀ j, j < l.length → listed.getD j false = true := by
          intro j
          induction j using Nat.strongRecOn with
          | _ j ihj =>
            intro hj
            cases hs : listed.getD j false with
            | true => rfl
            | false =>
              exfalso
              unfold Region.ready at hnil
              rw [List.filter_eq_nil_iff] at hnil
              have := hnil j (by simpa using hj)
              apply this
              have hlj : l[j]? = some l[j] := by simp [hj]
              rw [hget j hj, hs]
              simp only [Bool.not_false, Bool.true_and, List.getElem?_toArray, hlj, Option.map_some, Option.getD_some]
              rw [Array.all_eq_true_iff_forall_mem]
              intro e he
              have h1 := hr.after j _ hlj e he
              rw [ihj e.on h1.2 (by omega)]
              simp
        exact ⟨_, H, rel, by rw [seqT_lis l es T _ _ hall]; exact hfin'⟩
      · unfold Region.ready at hi
        rw [List.mem_filter] at hi
        obtain ⟨hil, hrd⟩ := hi
        simp only [List.size_toArray, List.mem_range] at hil
        have hli : l[i]? = some l[i] := by simp [hil]
        rw [hget i hil] at hrd
        simp only [List.getElem?_toArray, hli, Option.map_some, Option.getD_some, Bool.and_eq_true, Bool.not_eq_true', Array.all_eq_true_iff_forall_mem] at hrd
        obtain ⟨hSi, haf⟩ := hrd
        have haf' : ∀ e ∈ l[i].after, listed.getD e.on false = true := fun e he => by
          have h1 := haf e he
          have h2 := hr.after i _ hli e he
          simpa [h2.1] using h1
        generalize ho : l[i] = o at hli haf'
        have hlook := lis_seq hr es T (fun j => listed.getD j false) hcl i o hli hSi haf'
        have hops : OK V H (ev (seqT l es T i)) o a w := by
          have h0 := rel.oks o
          refine ⟨h0.hok, fun x hx => ?_, h0.vlt, h0.gw⟩
          have := h0.ops x hx
          rw [ev_of (T2 := seqT l es T i) (fun t ht => hlook t (List.mem_append_left _ (List.mem_filterMap.2 ⟨x, by simpa using hx, by rw [ht]⟩)))] at this
          exact this
        have hnext : ∀ w' a', Rel V O w0 H (putT (lisT l es T (fun j => listed.getD j false) l.length) o.dst (es i)) a' w' → wpAny P .any l.toArray (lift V O w0 Q) fuel (listed.setIfInBounds i true) a' w' := by
          intro w' a' hrel
          have h1 : (listed.setIfInBounds i true).getD i false = true := by
            have : i < listed.size := by omega
            simp [Array.getD, this]
          have h2 : ∀ j, j ≠ i → (listed.setIfInBounds i true).getD j false = listed.getD j false := fun j hj => by
            simp only [Array.getD_eq_getD_getElem?]
            rw [Array.getElem?_setIfInBounds_ne (fun e => hj e.symm)]
          refine ih _ _ _ (by simpa using hsz) (fun j q hj hs e he => ?_) ?_ ?_
          · by_cases hji : j = i
            · subst hji
              rw [hli] at hj; cases hj
              have h3 := (hr.after j _ hli e he).2
              rw [h2 _ (by omega)]; exact haf' e he
            · rw [h2 j hji] at hs
              have h3 := hcl j q hj hs e he
              by_cases hei : e.on = i
              · rw [hei]; exact h1
              · rw [h2 _ hei]; exact h3
          · have := cnt_lt (fun j => listed.getD j false) (fun j => (listed.setIfInBounds i true).getD j false) (fun j hj => by
              by_cases hji : j = i
              · subst hji; exact h1
              · show (listed.setIfInBounds i true).getD j false = true
                rw [h2 j hji]; exact hj) i hSi h1 l.length hil
            omega
          · rw [← lis_put hr es T _ (fun j => (listed.setIfInBounds i true).getD j false) i o hli hSi h1 h2]; exact hrel
        unfold wpOp
        simp only [List.getElem?_toArray, hli]
        rcases hE i o (Nat.zero_le _) hli with ⟨hg, he⟩ | ⟨j, want, t, p, av, hg, hd, hp, he0, he⟩
        · rw [if_pos (by simp [Region.wanted, hg])]
          exact .inl (he V a w _ _ hops fun v w' hE' hd => hnext _ _ ((rel.quiet hE').put _ hd))
        · have htl : t ∈ looks l o := by
            refine List.mem_append_right _ ?_
            rw [hg]
            simp only [List.getElem?_toArray] at hd
            simp only [hd]; simp
          have hgd : (lisT l es T (fun j => listed.getD j false) l.length).getD t .top = (seqT l es T i).getD t .top := by
            simp only [List.getD, hlook t htl]
          rw [wanted_of rel hg hd (by rw [hgd]; exact hp)]
          cases hpb : p with
          | true =>
            rw [if_pos rfl]
            exact .inl (he hpb V a w _ _ hops.strip fun v w' hE' hd => hnext _ _ ((rel.quiet hE').put _ (by rw [he0, Den]; exact ⟨fun _ => hd, (fun h => by rw [hpb] at h; cases h)⟩)))
          | false =>
            rw [if_neg (by simp)]
            exact hnext _ _ (rel.put _ (by rw [he0, Den]; exact ⟨(fun h => by rw [hpb] at h; cases h), fun _ => rfl⟩))
  have hrep : ∀ j, (Array.replicate l.length false).getD j false = false := fun j => by simp [Array.getD]
  refine key _ _ a w (by simp) (fun j q _ hs => ?_) ?_ ?_
  · rw [List.size_toArray, hrep j] at hs; cases hs
  · have : ∀ k, cnt (fun j => (Array.replicate l.toArray.size false).getD j false) k ≤ k := fun k => by
      induction k with
      | zero => simp [cnt]
      | succ k ih => simp only [cnt]; split <;> omega
    simpa using this l.length
  · have : lisT l es T (fun j => (Array.replicate l.toArray.size false).getD j false) l.length = T := by
      have : ∀ k, lisT l es T (fun j => (Array.replicate l.toArray.size false).getD j false) k = T := fun k => by
        induction k with
        | zero => rfl
        | succ k ih => simp only [lisT]; rw [if_neg (by rw [List.size_toArray, hrep]; simp)]; exact ih
      exact this _
    rw [this]; exact rel
end
end Go.Proofs.YtfaljkenmbbbaaaDoor
/- A walk over symbolic memory: structs and rows that are made, conversions, stores into rows. No program in sight. -/
namespace Go.Proofs.YtfaljkenmbbbaaaDoor
open Go.RowKit
set_option linter.unusedSimpArgs false
set_option linter.unusedVariables false
/-- Cells with parts laid in. -/
def bldA (place : Nat → Option (Nat × Nat)) (cells : List AV) : List (Nat × AV) → Option (List AV)
  | [] => some cells
  | (i, v) :: rest =>
    match place i with
    | none => none
    | some (off, size) => if v.cells.length ≠ size ∨ off + v.cells.length > cells.length then none else bldA place (spl cells off v.cells) rest
/-- Where the fields of a struct lie, and its zero. -/
def plT (P : Program) (t : TypeId) : Option (List (Nat × Nat) × List Value) :=
  match P.info? t, P.underlying t with
  | some it, some (.struct fields) =>
    match it.zero, fields.toList.mapM (fun f => (P.info? f.type).map fun i => (f.offset, i.size)) with
    | some z, some places => some (places, z.cells.toList)
    | _, _ => none
  | _, _ => none
section
variable {P : Program} {V O : Nat → Prop} {w0 w w' : World} {H H' D : List Hp} {T T' : List AV} {a : Act} {o : Oper} {K : List AV → List Hp → Prop} {ρ : Operand → AV} {ops : Array Oper} {Q : Post} {F : Nat → Prop}
theorem fold_spl (off : Nat) : ∀ (new : List Value) (k : Nat) (cells : Array Value), off + k + new.length ≤ cells.size →
    ((new.zipIdx k).foldl (fun (cs : Array Value) (x : Value × Nat) => cs.setIfInBounds (off + x.2) x.1) cells).toList = cells.toList.take (off + k) ++ new ++ cells.toList.drop (off + k + new.length)
  | [], k, cells, _ => by simp
  | v :: new, k, cells, h => by
    simp only [List.length_cons] at h
    simp only [List.zipIdx_cons, List.foldl_cons]
    rw [fold_spl off new (k + 1) _ (by simp; omega)]
    have hlen : cells.toList.length = cells.size := Array.length_toList
    have e1 : (cells.toList.set (off + k) v).take (off + k + 1) = cells.toList.take (off + k) ++ [v] := by
      rw [List.take_succ_eq_append_getElem (by simp; omega), List.take_set_of_le (Nat.le_refl _)]
      simp
    have e2 : (cells.toList.set (off + k) v).drop (off + k + 1 + new.length) = cells.toList.drop (off + k + 1 + new.length) := by
      rw [List.drop_set_of_lt (by omega)]
    simp only [Array.toList_setIfInBounds, List.length_cons, ← Nat.add_assoc]
    rw [e1, e2, show off + k + new.length + 1 = off + k + 1 + new.length from by omega]
    simp
theorem bldA_den {place : Nat → Option (Nat × Nat)} : ∀ (parts : List (Nat × AV)) (vparts : List (Nat × Value)) (cells : List AV) (vcells : Array Value) (r : List AV), bldA place cells parts = some r → DenL F w cells vcells.toList →
    (vparts.length = parts.length ∧ ∀ (j : Nat) (p : Nat × AV) (q : Nat × Value), parts[j]? = some p → vparts[j]? = some q → p.1 = q.1 ∧ DenL F w p.2.cells q.2.cells.toList) → ∃ vr, Instr.fill place vcells vparts = some vr ∧ DenL F w r vr.toList
  | [], vparts, cells, vcells, r, h, hd, hp => by
    have : vparts = [] := List.eq_nil_of_length_eq_zero (by simpa using hp.1)
    subst this
    simp only [bldA] at h; cases h
    exact ⟨vcells, rfl, hd⟩
  | (i, v) :: rest, [], cells, vcells, r, h, hd, hp => by have := hp.1; simp at this
  | (i, v) :: rest, (i', v') :: vrest, cells, vcells, r, h, hd, hp => by
    obtain ⟨e, hv⟩ := hp.2 0 (i, v) (i', v') rfl rfl
    simp only at e hv
    subst e
    simp only [bldA] at h
    simp only [Instr.fill]
    cases hpl : place i with
    | none => rw [hpl] at h; cases h
    | some x =>
      obtain ⟨off, size⟩ := x
      rw [hpl] at h
      simp only at h
      split at h
      · cases h
      · rename_i hn
        have hl := hv.len
        have hlc := hd.len
        rw [Array.length_toList] at hl hlc
        have hn1 : v.cells.length = size := by
          by_cases h1 : v.cells.length = size
          · exact h1
          · exact absurd (.inl h1) hn
        have hn2 : ¬ off + v.cells.length > cells.length := fun h1 => hn (.inr h1)
        have hcond : ¬ (v'.cells.size ≠ size ∨ off + v'.cells.size > vcells.size) := by omega
        simp only
        rw [if_neg (by simpa using hcond)]
        refine bldA_den rest vrest _ _ r h ?_ ⟨by simpa using hp.1, fun j p q h1 h2 => hp.2 (j + 1) p q (by simpa using h1) (by simpa using h2)⟩
        have hf := fold_spl off v'.cells.toList 0 vcells (by simp; omega)
        simp only [Nat.add_zero] at hf
        have : (Array.foldl (fun (cs : Array Value) (x : Value × Nat) => cs.setIfInBounds (off + x.2) x.1) vcells v'.cells.zipIdx) = ((v'.cells.toList.zipIdx 0).foldl (fun (cs : Array Value) (x : Value × Nat) => cs.setIfInBounds (off + x.2) x.1) vcells) := by
          rw [← Array.foldl_toList, Array.toList_zipIdx]
        show DenL F w (spl cells off v.cells) (Array.foldl (fun (cs : Array Value) (x : Value × Nat) => cs.setIfInBounds (off + x.2) x.1) vcells v'.cells.zipIdx).toList
        rw [this, hf]
        exact hd.spl hv off
theorem parts_den (parts : Array (Nat × Operand)) (hmem : ∀ p ∈ parts, p.2 ∈ o.op.operands) (r : OK V H ρ o a w) (hone : ∀ p ∈ parts, (ρ p.2).cells.all AV.one = true) :
    ((parts.map fun (i, x) => (i, a.eval x)).toList.length = (parts.toList.map fun p => (p.1, ρ p.2)).length ∧ ∀ (j : Nat) (p : Nat × AV) (q : Nat × Value), (parts.toList.map fun p => (p.1, ρ p.2))[j]? = some p → (parts.map fun (i, x) => (i, a.eval x)).toList[j]? = some q → p.1 = q.1 ∧ DenL (FB V H) w p.2.cells q.2.cells.toList) := by
  refine ⟨by simp, fun j p q h1 h2 => ?_⟩
  rw [List.getElem?_map] at h1
  rw [Array.toList_map, List.getElem?_map] at h2
  cases hj : parts.toList[j]? with
  | none => rw [hj] at h1; cases h1
  | some x =>
    rw [hj] at h1 h2
    cases h1; cases h2
    have hx : x ∈ parts := by simpa using List.mem_of_getElem? hj
    exact ⟨rfl, (r.ops x.2 (hmem x hx)).cells (hone x hx)⟩
/-- A struct out of its parts. -/
theorem Evl_build (t : TypeId) (parts : Array (Nat × Operand)) (places : List (Nat × Nat)) (z : List Value) (cells : List AV) (ho : o.op = .build t parts) (hpl : plT P t = some (places, z))
    (hone : (parts.toList.all fun p => (ρ p.2).cells.all AV.one) = true) (hb : bldA (places.toArray[·]?) (z.map .x) (parts.toList.map fun p => (p.1, ρ p.2)) = some cells) : Evl P o ρ H (mkA cells) := by
  intro V a w Kc Q r hKc
  unfold plT at hpl
  cases hit : P.info? t with
  | none => simp [hit] at hpl
  | some it =>
    cases hu : P.underlying t with
    | none => simp [hit, hu] at hpl
    | some d =>
      cases d <;> simp [hit, hu] at hpl
      rename_i fields
      cases hz0 : it.zero with
      | none => simp [hz0] at hpl
      | some z0 =>
      cases hm : fields.toList.mapM (fun f => (P.info? f.type).map fun i => (f.offset, i.size)) with
      | none => simp [hz0, hm] at hpl
      | some places0 =>
      simp [hz0, hm] at hpl
      obtain ⟨rfl, hz⟩ := hpl
      obtain ⟨vr, hf, hd⟩ := bldA_den (F := FB V H) (w := w) _ _ _ z0.cells cells hb (by rw [← hz]; exact DenL.exact) (parts_den parts (fun p hp => by simp [ho, Op.operands]; exact ⟨p.1, by simpa using hp⟩) r (fun p hp => List.all_eq_true.1 hone p (by simpa using hp)))
      have hbt : P.built t (parts.map fun (i, x) => (i, a.eval x)).toList = some vr := by
        unfold Program.built
        simp only [hit, hu, hz0, hm]
        exact hf
      unfold Oper.wp execOp
      simp only [ho, Sem.run_bind, run_build w t _ vr hbt, Result.andThen_ok, Sem.run_pure, Oper.upon]
      refine hKc _ _ (Below.refl _ _) ?_
      have := Den.mkA hd
      simpa using this
/-- A row out of its elements. -/
theorem Stp_buildSlice (t e : TypeId) (len : Nat) (parts : Array (Nat × Operand)) (z : Value) (size bytes : Nat) (cells : List AV) (ho : o.op = .buildSlice t len parts) (hE : ElemAt P t e z size bytes)
    (hone : (parts.toList.all fun p => (ev T p.2).cells.all AV.one) = true) (hz1 : z.cells.toList.all (·.oneCell') = true) (hlen : len * size ≤ 16777216)
    (hb : bldA (fun i => some (i * size, size)) ((List.replicate len (z.cells.toList.map .x)).flatten) (parts.toList.map fun p => (p.1, ev T p.2)) = some cells)
    (hK : ∀ b, K (putT T o.dst (.x (.slice (some ⟨b, 0, none⟩) len len))) (.row (some ⟨b, 0, none⟩) len len e size cells :: H)) : Stp P o T H K := by
  intro V O w0 a w Kc Q r hKc
  obtain ⟨i, hi, hz, hsize, hby⟩ := info_parts hE.info
  have hpos := hE.pos
  have hzs := hE.zs
  -- the zeros
  have hz2 : z.cells.toList.length = size := by rw [Array.length_toList]; exact hzs
  have hzeros : ((Array.range (len * size)).map (z.cells[· % z.cells.size]!)).toList = (List.replicate len z.cells.toList).flatten := by
    apply List.ext_getElem?
    intro j
    simp only [Array.toList_map, Array.toList_range, List.getElem?_map]
    by_cases hj : j < len * size
    · rw [List.getElem?_range hj]
      have hmod : j % size < size := Nat.mod_lt _ hpos
      have key : ∀ (n : Nat) (j : Nat), j < n * size → ((List.replicate n z.cells.toList).flatten)[j]? = z.cells.toList[j % size]? := by
        intro n
        induction n with
        | zero => intro j h; simp at h
        | succ n ih =>
          intro j h
          rw [List.replicate_succ, List.flatten_cons]
          by_cases h1 : j < size
          · rw [List.getElem?_append_left (by simp; omega), Nat.mod_eq_of_lt h1]
          · rw [List.getElem?_append_right (by simp; omega), Array.length_toList, hzs, ih (j - size) (by rw [Nat.succ_mul] at h; omega), Nat.mod_eq_sub_mod (Nat.le_of_not_lt h1)]
      rw [key len j hj]
      simp [hzs, getElem!_pos, hmod]
    · rw [List.getElem?_eq_none (by simpa using hj), List.getElem?_eq_none (by simp [hzs]; omega)]; rfl
  obtain ⟨vr, hf, hd⟩ := bldA_den (F := FB V H) (w := w) _ _ _ ((Array.range (len * size)).map (z.cells[· % z.cells.size]!)) cells hb (by
    rw [hzeros]
    have : (List.replicate len (z.cells.toList.map AV.x)).flatten = ((List.replicate len z.cells.toList).flatten).map AV.x := by
      rw [List.map_flatten, List.map_replicate]
    rw [this]; exact DenL.exact) (parts_den parts (fun p hp => by simp [ho, Op.operands]; exact ⟨p.1, by simpa using hp⟩) (r.oks o) (fun p hp => List.all_eq_true.1 hone p (by simpa using hp)))
  have hrun : (execOp a.eval o).run P w = .ok (.value (.slice (some ⟨w.heap.size, 0, none⟩) len len)) (w.alloc (.cells vr e)) := by
    have h24 : ¬ (len * i.size > 16777216) := by rw [hsize]; omega
    by_cases h0 : len * i.size = 0
    · have hf' : Instr.fill (fun j => some (j * i.size, i.size)) #[] (parts.map fun (i, x) => (i, a.eval x)).toList = some vr := by
        rw [hsize] at h0 ⊢; rw [← hf, h0]; simp [Array.range]
      have hl0 : len = 0 := by
        rw [hsize] at h0
        rcases Nat.mul_eq_zero.1 h0 with h | h
        · exact h
        · omega
      subst hl0
      have hf2 : Instr.fill (fun j => some (j * i.size, i.size)) #[] (List.map (fun x => (x.1, a.eval x.2)) parts.toList) = some vr := by rw [← hf', Array.toList_map]
      simp [execOp, ho, Instr.buildSlice, run_underlying hE.under, sizeOf, typeInfo, hi, newRow, show Array.range 0 = #[] from rfl, hf2]
    · have hf' : Instr.fill (fun j => some (j * i.size, i.size)) (Array.map (fun x => z.cells[x % z.cells.size]!) (Array.range (len * i.size))) (parts.map fun (i, x) => (i, a.eval x)).toList = some vr := by
        rw [hsize]; exact hf
      simp [execOp, ho, Instr.buildSlice, run_underlying hE.under, sizeOf, typeInfo, hi, h0, h24, zeroValue, hz, newRow] at hf' ⊢
      simp [hf']
  have hvlen : vr.size = len * size := by
    have h1 := hd.len
    have : ∀ (ps : List (Nat × AV)) (cs r : List AV), bldA (fun i => some (i * size, size)) cs ps = some r → r.length = cs.length := by
      intro ps
      induction ps with
      | nil => intro cs r h; simp only [bldA] at h; cases h; rfl
      | cons p ps ih =>
        intro cs r h
        obtain ⟨i, v⟩ := p
        simp only [bldA] at h
        split at h
        · cases h
        · rename_i hn
          rw [ih _ _ h]
          simp [spl]; omega
    have h2 := this _ _ _ hb
    rw [Array.length_toList] at h1
    rw [h1, h2]; simp [hzs]
  unfold Oper.wp
  rw [hrun]
  have hE' : Ext w (w.alloc (.cells vr e)) := Ext.al _ _
  have hones : cells.all AV.one = true := by
    have : ∀ (ps : List (Nat × AV)) (cs r : List AV), (ps.all fun p => p.2.cells.all AV.one) = true → cs.all AV.one = true → bldA (fun i => some (i * size, size)) cs ps = some r → r.all AV.one = true := by
      intro ps
      induction ps with
      | nil => intro cs r _ hc h; simp only [bldA] at h; cases h; exact hc
      | cons p ps ih =>
        intro cs r hp hc h
        obtain ⟨i, v⟩ := p
        simp only [bldA] at h
        simp only [List.all_cons, Bool.and_eq_true] at hp
        split at h
        · cases h
        · refine ih _ _ hp.2 ?_ h
          simp only [spl, List.all_append, Bool.and_eq_true]
          exact ⟨⟨List.all_eq_true.2 fun x hx => List.all_eq_true.1 hc x (List.mem_of_mem_take hx), hp.1⟩, List.all_eq_true.2 fun x hx => List.all_eq_true.1 hc x (List.mem_of_mem_drop hx)⟩
    refine this _ _ _ ?_ ?_ hb
    · rw [List.all_map]; exact hone
    · rw [List.all_eq_true]
      intro x hx
      obtain ⟨l, hl, hx⟩ := List.mem_flatten.1 hx
      rw [List.eq_of_mem_replicate hl] at hx
      obtain ⟨v, hv, rfl⟩ := List.mem_map.1 hx
      exact List.all_eq_true.1 hz1 v hv
  refine hKc _ _ _ _ (hK w.heap.size) (Rel.put (Rel.new r hE' _ (fun k hk => by cases hk; simp) ?_) _ (by rw [Den]))
  refine ⟨vr.toList, ?_, ?_, hd.one hones⟩
  · refine DenL.conv (fun k hk => ?_) (fun k hk _ => hE'.block k hk) _ _ hd
    rcases hk with hk | ⟨y, hy, e⟩
    · exact .inl (.inl hk)
    · rcases List.mem_cons.1 hy with rfl | hy
      · cases e; exact .inr (Nat.le_refl _)
      · exact .inl (.inr ⟨y, hy, e⟩)
  · have hm : len ≤ maxLen := by
      have : len * 1 ≤ len * size := Nat.mul_le_mul_left _ hpos
      unfold maxLen; omega
    have := World.ownsRow_lit (base := 0) (size := size) (e := e) w vr len (Nat.zero_le _) hm hvlen
    exact this
end
end Go.Proofs.YtfaljkenmbbbaaaDoor
/- A walk over symbolic memory: conversions, make, stores into rows, appends of strings. No program in sight. -/
namespace Go.Proofs.YtfaljkenmbbbaaaDoor
open Go.RowKit
set_option linter.unusedSimpArgs false
set_option linter.unusedVariables false
/-! What a program's table says of its types. -/
class HAgg (P : Program) (t : TypeId) (b : outParam Bool) (n : outParam Nat) : Prop where out : aggT P t = some (b, n)
class HSize (P : Program) (t : TypeId) (n : outParam Nat) : Prop where out : (P.info? t).map (·.size) = some n
class HFld (P : Program) (t : TypeId) (f : Nat) (k : outParam Nat) : Prop where out : fldT P t f = some k
class HEl (P : Program) (t : TypeId) (e : outParam TypeId) (n : outParam Nat) : Prop where out : elT P t = some (e, n)
class HElem (P : Program) (t : TypeId) (e : outParam TypeId) (z : outParam Value) (size bytes : outParam Nat) : Prop where out : ElemAt P t e z size bytes
class HPl (P : Program) (t : TypeId) (pl : outParam (List (Nat × Nat))) (z : outParam (List Value)) : Prop where out : plT P t = some (pl, z)
class HZero (P : Program) (t : TypeId) (z : outParam Value) : Prop where out : (P.info? t).bind (·.zero) = some z
/-- A frame of n slots of which some are known. -/
def frm (n : Nat) (l : List (Nat × AV)) : List AV := l.foldl (fun T p => T.set p.1 p.2) (List.replicate n .top)
theorem Vw.eq {D : List Hp} {a b : AV} (h : a = b) : Vw D a b := h ▸ Vw.refl a
section
variable {P : Program} {V O : Nat → Prop} {w0 w w' : World} {H H' D : List Hp} {T T' : List AV} {a : Act} {o : Oper} {K : List AV → List Hp → Prop} {ρ : Operand → AV} {ops : Array Oper} {Q : Post} {F : Nat → Prop}
/-- The kind of an operation, for the walk's choice. -/
def opk : Op → Nat
  | .move _ => 0
  | .assign _ => 0
  | .pick .. => 1
  | .extract .. => 2
  | .call { callee := .builtin .len, .. } => 3
  | .nilCheck _ => 4
  | .fieldAddr .. => 5
  | .load .. => 6
  | .indexAddr .. => 7
  | .index .. => 8
  | .slice .. => 9
  | .build .. => 10
  | .call { callee := .value _, .. } => 11
  | .call { callee := .builtin .append, .. } => 13
  | .alloc _ => 14
  | .box .. => 15
  | .store .. => 16
  | .buildSlice .. => 17
  | .makeSlice .. => 18
  | .call { callee := .invoke .., .. } => 19
  | .call { callee := .builtin _, .. } => 20
  | _ => 12
theorem Evl_k (n : Nat) {av : AV} (hk : opk o.op = n) (h : Evl P o ρ H av) : Evl P o ρ H av := h
theorem Stp_k (n : Nat) (hk : opk o.op = n) (h : Stp P o T H K) : Stp P o T H K := h
theorem awpL_cong {rest : List Oper} {T' : List AV} {H' : List Hp} (hT : T = T') (hH : H = H') (h : awpL P ops Q rest T' H') : awpL P ops Q rest T H := hT ▸ hH ▸ h
theorem awpL_evl2 {rest : List Oper} {T' : List AV} (hg : o.guard = none) (av : AV) (h : Evl P o (ev T) H av) (hT : putT T o.dst av = T') (hK : awpL P ops Q rest T' H) : awpL P ops Q (o :: rest) T H := awpL_evl hg av h (hT ▸ hK)
theorem dr_evl2 {rest : List Oper} {fin : List AV → Prop} {T' : List AV} (hg : o.guard = none) (av : AV) (h : Evl P o (ev T) H av) (hT : putT T o.dst av = T') (hK : dr P H ops rest T' fin) : dr P H ops (o :: rest) T fin := dr_evl hg av h (hT ▸ hK)
theorem awpL_g2 {rest : List Oper} {T' : List AV} {j : Nat} {want : Bool} {t : Nat} (p : Bool) (av : AV) (hg : o.guard = some (j, want)) (hd : (ops[j]?).bind (·.dst) = some t) (hp : gdc want (T.getD t .top) = some p)
    (h : p = true → Evl P o (evs T) H av) (hT : putT T o.dst (.g p av) = T') (hK : awpL P ops Q rest T' H) : awpL P ops Q (o :: rest) T H := awpL_g p av hg hd hp h (hT ▸ hK)
theorem dr_g2 {rest : List Oper} {fin : List AV → Prop} {T' : List AV} {j : Nat} {want : Bool} {t : Nat} (p : Bool) (av : AV) (hg : o.guard = some (j, want)) (hd : (ops[j]?).bind (·.dst) = some t) (hp : gdc want (T.getD t .top) = some p)
    (h : p = true → Evl P o (evs T) H av) (hT : putT T o.dst (.g p av) = T') (hK : dr P H ops rest T' fin) : dr P H ops (o :: rest) T fin := dr_g p av hg hd hp h (hT ▸ hK)
theorem thenA_normal {K : List AV → List Hp → Prop} (h : K T H) : thenA K Q .normal T H := h
theorem thenA_exit {K : List AV → List Hp → Prop} {id : Nat} (h : Q (.exit id) T H) : thenA K Q (.exit id) T H := h
theorem thenA_ret {K : List AV → List Hp → Prop} (h : Q .ret T H) : thenA K Q .ret T H := h
theorem thenA_goto {K : List AV → List Hp → Prop} {id : Nat} (h : Q (.goto id) T H) : thenA K Q (.goto id) T H := h
theorem inBlockA_eq {id : Nat} (h : Q .normal T H) : inBlockA id Q (.exit id) T H := by simp only [inBlockA, if_true]; exact h
theorem inBlockA_ne {id id' : Nat} (hne : id' ≠ id) (h : Q (.exit id') T H) : inBlockA id Q (.exit id') T H := by simp only [inBlockA, if_neg hne]; exact h
theorem inBlockA_normal {id : Nat} (h : Q .normal T H) : inBlockA id Q .normal T H := h
theorem inBlockA_ret {id : Nat} (h : Q .ret T H) : inBlockA id Q .ret T H := h
theorem inBlockA_goto {id l : Nat} (h : Q (.goto l) T H) : inBlockA id Q (.goto l) T H := h
theorem ex_x (v : Value) : AV.ex (.x v) = true := rfl
theorem ex_sq (n : Nat) (l : List AV) : AV.ex (.sq n l) = false := rfl
theorem ex_at (l : List AV) : AV.ex (.at_ l) = false := rfl
theorem ex_ifc (t : TypeId) (a : AV) : AV.ex (.ifc t a) = false := rfl
theorem spl_succ (a : AV) (l : List AV) (o : Nat) (new : List AV) : spl (a :: l) (o + 1) new = a :: spl l o new := by simp [spl, Nat.succ_add]
theorem spl_zero (l new : List AV) : spl l 0 new = new ++ l.drop new.length := by simp [spl]
theorem vc_int (k : IntKind) (n : Int) : (Value.int k n).cells.toList = [.int k n] := rfl
theorem vc_bool (b : Bool) : (Value.bool b).cells.toList = [.bool b] := rfl
theorem vc_string (b : ByteArray) : (Value.string b).cells.toList = [.string b] := rfl
theorem vc_slice (a : Option Addr) (n c : Nat) : (Value.slice a n c).cells.toList = [.slice a n c] := rfl
theorem vc_agg (l : List Value) : (Value.agg l.toArray).cells.toList = l := rfl
theorem one_x (v : Value) : AV.one (.x v) = v.oneCell' := rfl
theorem one_sq (n : Nat) (l : List AV) : AV.one (.sq n l) = true := rfl
theorem one_at (l : List AV) : AV.one (.at_ l) = true := rfl
theorem one_ifc (t : TypeId) (a : AV) : AV.one (.ifc t a) = true := rfl
theorem cells_int (k : IntKind) (n : Int) : AV.cells (.x (.int k n)) = [.x (.int k n)] := rfl
theorem cells_bool (b : Bool) : AV.cells (.x (.bool b)) = [.x (.bool b)] := rfl
theorem cells_string (b : ByteArray) : AV.cells (.x (.string b)) = [.x (.string b)] := rfl
theorem cells_slice (a : Option Addr) (n c : Nat) : AV.cells (.x (.slice a n c)) = [.x (.slice a n c)] := rfl
theorem cells_pointer (a : Option Addr) : AV.cells (.x (.pointer a)) = [.x (.pointer a)] := rfl
theorem cells_nilIface : AV.cells (.x .nilIface) = [.x .nilIface] := rfl
theorem cells_iface (t : TypeId) (v : Value) : AV.cells (.x (.iface t v)) = [.x (.iface t v)] := rfl
theorem cells_func (f : Fn) (a b : Array Value) : AV.cells (.x (.func f a b)) = [.x (.func f a b)] := rfl
theorem cells_sq (n : Nat) (l : List AV) : AV.cells (.sq n l) = [.sq n l] := rfl
theorem cells_at (l : List AV) : AV.cells (.at_ l) = [.at_ l] := rfl
theorem cells_ifc (t : TypeId) (a : AV) : AV.cells (.ifc t a) = [.ifc t a] := rfl
theorem cells_agg (l : List AV) : AV.cells (.agg l) = l := rfl
theorem cells_aggx (l : List Value) : AV.cells (.x (.agg l.toArray)) = l.map .x := rfl
/-- The cells of bytes. -/
def u8a (l : List UInt8) : List AV := (u8s l).map .x
theorem u8a_len (l : List UInt8) : (u8a l).length = l.length := by simp [u8a, u8s_len]
/-- The value that src shows, as the elder words say it. -/
theorem OK.srcSl (r : OK V H ρ o a w) {x : Operand} (hx : x ∈ o.op.operands) {m : Nat} {l : List Value} (h : Src ρ H x m (l.map .x)) : Sl 0 w (a.eval x) m l := by
  obtain ⟨ad, cap, vals, hv, h1, h2, h3, hd, hone, hm⟩ := r.src hx h
  rw [hd.exact'] at hm
  refine ⟨ad, cap, hv, h1, h2, h3, fun _ _ => Nat.zero_le _, fun j u hj => ?_⟩
  rcases hm with rfl | ⟨b, off, rfl, hc⟩
  · simp at hj
  · exact ⟨_, rfl, by rw [add_none]; exact hc j u hj⟩
/-- 'string(b)'. -/
theorem Evl_string (src dst e : TypeId) (x : Operand) (l : List UInt8) (ho : o.op = .convert src dst x) (hs : P.underlying src = some (.slice e)) (he : P.underlying e = some (.int .u8)) (hd : P.underlying dst = some .string)
    (hx : Src ρ H x l.length (u8a l)) : Evl P o ρ H (.x (.string (bs l))) := by
  intro V a w Kc Q r hKc
  have hsl := r.srcSl (x := x) (by simp [ho, Op.operands]) (l := u8s l) hx
  have hrun := run_string_bs (P := P) w 0 src dst (a.eval x) l e hs he hd hsl
  unfold Oper.wp execOp
  simp only [ho, hrun, Sem.run_bind, Sem.run_pure, Result.andThen_ok, Oper.upon]
  exact hKc _ _ (Below.refl _ _) (by rw [Den])
/-- '[]byte(s)': a box that the slice shows whole. -/
theorem Stp_bytes (src dst e : TypeId) (x : Operand) (l : List UInt8) (ho : o.op = .convert src dst x) (hs : P.underlying src = some .string) (ht : P.underlying dst = some (.slice e)) (he : P.elem dst = e) (hu : P.underlying e = some (.int .u8)) (hx : ev T x = .x (.string (bs l))) (hl : l.length ≤ 1000000)
    (hK : ∀ b cap, l.length ≤ cap → cap ≤ maxLen → K (putT T o.dst (.x (.slice (some ⟨b, 0, none⟩) l.length cap))) (.box b (u8a l) :: H)) : Stp P o T H K := by
  intro V O w0 a w Kc Q r hKc
  have hrun := conv_string_bytes (P := P) w src dst e (bs l) hs (by rw [ht, he]) he hu
  have h1 := grownCap_ge w (bs l).size 0 e
  have h2 := grownCap_le_maxLen w (bs l).size 0 e (by rw [bs_size]; unfold maxLen; omega)
  rw [bs_size] at h1 h2 hrun
  have hsl := bs_conv w 0 w.heap.size l.length e (bs l) l rfl (by simp) (by simp) (by simpa using hl) (Nat.zero_le _)
  obtain ⟨ad, cap, e1, _, _, _, _, hc⟩ := hsl
  simp only [Value.slice.injEq] at e1
  obtain ⟨rfl, -, -⟩ := e1
  have hE : Ext w (w.ext #[strObj w e (bs l)] (w.drawn + 1)) := Ext.ext _ _ _
  unfold Oper.wp execOp
  simp only [ho, r.evx hx, hrun, Sem.run_bind, Sem.run_pure, Result.andThen_ok, Oper.upon]
  refine hKc _ _ _ _ (hK w.heap.size _ h1 h2) (Rel.put (Rel.new r hE _ (fun k hk => by cases hk; simp) ?_) _ (by rw [Den]))
  refine ⟨u8s l, DenL.exact, by simp, fun j u hj => ⟨?_, u8s_one l u (List.mem_of_getElem? hj), ?_⟩⟩
  · obtain ⟨x, hx, hu⟩ := hc j u hj
    cases hx
    rwa [add_none, Nat.zero_add] at hu
  · have hjl : j < l.length := by have := (List.getElem?_eq_some_iff.1 hj).1; rwa [u8s_len] at this
    have hb : (w.ext #[strObj w e (bs l)] (w.drawn + 1)).heap[w.heap.size]? = some (strObj w e (bs l)) := by rw [ext_tail (Nat.le_refl _)]; simp
    unfold World.frozen?
    rw [show (w.ext #[strObj w e (bs l)] (w.drawn + 1)).heap[(⟨w.heap.size, j, none⟩ : Addr).block]? = some (strObj w e (bs l)) from hb]
    simp only [strObj]
    have hsz : l.length ≤ (Lib.bytesCells w e (bs l)).size := by
      have h5 : (bs l).data.size = l.length := by simp [bs]
      simp [Lib.bytesCells, h5]
    simp; omega
/-- 'make([]T, n)', an element of one cell. -/
theorem Stp_make (t e : TypeId) (x y : Operand) (z : Value) (bytes : Nat) (kl kc : IntKind) (n c : Nat) (ho : o.op = .makeSlice t x y) (hE : ElemAt P t e z 1 bytes) (hz : z.cells = #[z]) (hz1 : z.oneCell' = true) (hx : ev T x = .x (.int kl n)) (hy : ev T y = .x (.int kc c)) (hnc : n ≤ c) (hf : Fits c bytes)
    (hK : ∀ b, K (putT T o.dst (.x (.slice (some ⟨b, 0, none⟩) n c))) (.row (some ⟨b, 0, none⟩) n c e 1 (List.replicate n (.x z)) :: H)) : Stp P o T H K := by
  intro V O w0 a w Kc Q r hKc
  obtain ⟨i, hi, hzi, hsize, hby⟩ := info_parts hE.info
  have hF := hf
  unfold Fits at hF
  have hm : c ≤ 9223372036854775807 := by have := hF.2; unfold maxLen at this; omega
  have hrun := run_make (P := P) w t e i z hE.under hi hzi kl kc n c (by omega) (by omega) (by rw [hby]; have := hF.1; rw [Nat.mul_comm] at this; have h2 : ((bytes * c : Nat) : Int) ≤ 281474976710656 := by omega
                                                                                               rwa [Int.natCast_mul] at h2) (by omega)
  simp only [Int.toNat_natCast, hsize, Nat.mul_one] at hrun
  unfold Oper.wp execOp
  simp only [ho, r.evx hx, r.evx hy, hrun, Sem.run_bind, Sem.run_pure, Result.andThen_ok, Oper.upon]
  have hmade : madeCells z.cells c = (List.replicate c z).toArray := by
    apply Array.toList_inj.1
    simp only [madeCells, hz]
    apply List.ext_getElem?
    intro j
    simp only [Array.toList_map, Array.toList_range, List.getElem?_map]
    by_cases hj : j < c
    · rw [List.getElem?_range hj]; simp [List.getElem?_replicate, hj, Nat.mod_one]
    · rw [List.getElem?_eq_none (by simpa using hj), List.getElem?_eq_none (by simpa using hj)]; rfl
  refine hKc _ _ _ _ (hK w.heap.size) (Rel.put (Rel.new r (Ext.al w _) _ (fun k hk => by cases hk; simp) ?_) _ (by rw [Den]))
  refine ⟨List.replicate n z, ?_, ⟨by simp, .inr ⟨w.heap.size, c, _, rfl, Nat.zero_le _, heap_alloc_new w _, hnc, hF.2, by rw [hmade]; simp, ?_⟩⟩, fun u hu => by rw [List.eq_of_mem_replicate hu]; exact hz1⟩
  · have : List.replicate n (AV.x z) = (List.replicate n z).map AV.x := by simp
    rw [this]; exact DenL.exact
  · rw [hmade]; simp [hnc]
theorem splice_get {α : Type} (A N : List α) (off j : Nat) (h : off + N.length ≤ A.length) : (A.take off ++ N ++ A.drop (off + N.length))[j]? = if j < off then A[j]? else if j < off + N.length then N[j - off]? else A[j]? := by
  by_cases h3 : j < off
  · rw [List.append_assoc, List.getElem?_append_left (by simp; omega), List.getElem?_take, if_pos h3, if_pos h3]
  · rw [if_neg h3]
    by_cases h4 : j < off + N.length
    · rw [if_pos h4, List.append_assoc, List.getElem?_append_right (by simp; omega), List.length_take, show min off A.length = off from by omega, List.getElem?_append_left (by omega)]
    · rw [if_neg h4, List.getElem?_append_right (by simp; omega)]
      simp only [List.length_append, List.length_take, List.getElem?_drop]
      congr 1
      omega
/-- A store into a row of the call's own: one element of one cell, or one cell of an element. -/
theorem Stp_store_row (i : Nat) (t : TypeId) (x y : Operand) (b off : Nat) (n cap : Nat) (e : TypeId) (size : Nat) (cells : List AV) (ho : o.op = .store t x y) (hx : ev T x = .x (.pointer (some ⟨b, off, none⟩))) (hi : H[i]? = some (.row (some ⟨b, 0, none⟩) n cap e size cells))
    (ht : (P.info? t).map (·.size) = some (ev T y).cells.length) (h1 : (ev T y).cells.all AV.one = true) (hn : off + (ev T y).cells.length ≤ cells.length)
    (hK : K (putT T o.dst (.x undef)) (H.set i (.row (some ⟨b, 0, none⟩) n cap e size (spl cells off (ev T y).cells)))) : Stp P o T H K := by
  intro V O w0 a w Kc Q r hKc
  obtain ⟨vals, hd, hown, hones⟩ := r.hp i _ hi
  have hy := (r.ev y).cells h1
  have hlen : (a.eval y).cells.size = (ev T y).cells.length := by have := hy.len; simpa using this
  have hvl := hd.len
  obtain ⟨hvn, hcase⟩ := hown
  rcases hcase with ⟨e0, _⟩ | ⟨g, cap', cur, e0, hbg, hg, hnc, hcm, hcs, htake⟩
  · cases e0
  simp only [Value.slice.injEq, Option.some.injEq, Addr.mk.injEq] at e0
  obtain ⟨⟨rfl, -, -⟩, -, rfl⟩ := e0
  have hcurlen : vals.length ≤ cur.size := by rw [hcs, hvn]; exact Nat.mul_le_mul_right _ hnc
  have hst := run_storeCells_at P b off e (a.eval y).cells.toList 0 cur w hg (by simp; omega) (hy.one h1)
  simp only [Nat.add_zero] at hst
  have hrun : (storeVar t ⟨b, off, none⟩ (a.eval y)).run P w = .ok () (w.setRow b (cur.toList.take off ++ (a.eval y).cells.toList ++ cur.toList.drop (off + (a.eval y).cells.toList.length)).toArray) := by
    cases hq : P.info? t with
    | none => simp [hq] at ht
    | some i =>
      have : (a.eval y).cells.size = i.size := by simp [hq] at ht; omega
      simp [storeVar, sizeOf, typeInfo, hq, this] at hst ⊢
      exact hst
  have hset := setRow_heap w b cur (cur.toList.take off ++ (a.eval y).cells.toList ++ cur.toList.drop (off + (a.eval y).cells.toList.length)).toArray e (0, 0) hg
  have hF : ∀ k, FB V (H.set i (.row (some ⟨b, 0, none⟩) n cap e size (spl cells off (ev T y).cells))) k → FB V H k := by
    intro k hk
    rcases hk with hk | ⟨z, hz, e⟩
    · exact .inl hk
    · rcases List.mem_or_eq_of_mem_set hz with hz | rfl
      · exact .inr ⟨z, hz, e⟩
      · exact .inr ⟨_, List.mem_of_getElem? hi, e⟩
  have hother : ∀ k, k ≠ b → (w.setRow b (cur.toList.take off ++ (a.eval y).cells.toList ++ cur.toList.drop (off + (a.eval y).cells.toList.length)).toArray).heap[k]? = w.heap[k]? := fun k hk => setRow_other w b k _ hk
  have hsz : (w.setRow b (cur.toList.take off ++ (a.eval y).cells.toList ++ cur.toList.drop (off + (a.eval y).cells.toList.length)).toArray).heap.size = w.heap.size := by simp [World.setRow]
  have hbl : b < w.heap.size := (Array.getElem?_eq_some_iff.1 hg).1
  refine wp_store_of ho (r.evx hx) hrun (hKc _ _ _ _ hK (Rel.put (Rel.turnAt (w' := w.setRow b (cur.toList.take off ++ (a.eval y).cells.toList ++ cur.toList.drop (off + (a.eval y).cells.toList.length)).toArray) (y := .row (some ⟨b, 0, none⟩) n cap e size (spl cells off (ev T y).cells)) r i hi rfl rfl rfl (by omega) (fun k _ hk => hother k (fun e => hk (by rw [e]; rfl))) (fun k hk => ⟨by simp [Hp.blk] at hk; omega, .inl hk⟩) ?_) _ (v := undef) (by rw [Den])))
  have hw : ∀ k, k < w.heap.size → ¬ FB V H k → (w.setRow b (cur.toList.take off ++ (a.eval y).cells.toList ++ cur.toList.drop (off + (a.eval y).cells.toList.length)).toArray).heap[k]? = w.heap[k]? := fun k _ hn => hother k fun e => hn (.inr ⟨_, List.mem_of_getElem? hi, by rw [e]; rfl⟩)
  refine ⟨vals.take off ++ (a.eval y).cells.toList ++ vals.drop (off + (a.eval y).cells.toList.length), DenL.conv (fun k hk => .inl (hF k hk)) hw _ _ (hd.spl hy off), ⟨?_, .inr ⟨b, cap, _, rfl, Nat.zero_le _, hset, hnc, hcm, ?_, ?_⟩⟩, fun u hu => ?_⟩
  · simp; omega
  · simp; omega
  · have hvt : vals = cur.toList.take vals.length := by rw [hvn]; exact htake.symm
    have hcl : cur.toList.length = cur.size := Array.length_toList
    rw [← hvn]
    apply List.ext_getElem?
    intro j
    have hnl : (a.eval y).cells.toList.length = (a.eval y).cells.size := Array.length_toList
    have hvj : ∀ j, j < vals.length → vals[j]? = cur.toList[j]? := fun j hj => by
      conv => lhs; rw [hvt]
      rw [List.getElem?_take, if_pos hj]
    rw [List.getElem?_take]
    split
    · rename_i hj
      rw [splice_get _ _ _ _ (by omega), splice_get _ _ _ _ (by omega)]
      split
      · exact (hvj j hj).symm
      · split
        · rfl
        · exact (hvj j hj).symm
    · rename_i hj
      rw [List.getElem?_eq_none]
      simp; omega
  · simp only [List.mem_append] at hu
    rcases hu with (hu | hu) | hu
    · exact hones u (List.mem_of_mem_take hu)
    · exact hy.one h1 u hu
    · exact hones u (List.mem_of_mem_drop hu)
/-- The address of an element of a row whose block is known. -/
theorem Evl_index_own (t e : TypeId) (x y : Operand) (size b off n cap : Nat) (k : IntKind) (i : Int) (j : Nat) (ho : o.op = .indexAddr t x y) (hx : ρ x = .x (.slice (some ⟨b, off, none⟩) n cap)) (hy : ρ y = .x (.int k i)) (ht : elT P t = some (e, size)) (hi : i = (j : Int)) (h1 : j < n) : Evl P o ρ H (.x (.pointer (some ⟨b, off + j * size, none⟩))) := by
  subst hi
  intro V a w Kc Q r hKc
  exact wp_index_of ho ht (r.evx (by simp [ho, Op.operands]) hx) (r.evx (by simp [ho, Op.operands]) hy) (by omega) (by omega) (hKc _ _ (Below.refl _ _) (by simp [Den]))
/-- A part of a row whose block is known. -/
theorem Evl_slice_own (t e : TypeId) (x : Operand) (lo hi : Option Operand) (size b off n cap l h : Nat) (ho : o.op = .slice t x lo hi none) (hx : ρ x = .x (.slice (some ⟨b, off, none⟩) n cap)) (ht : elT P t = some (e, size))
    (hlo : (lo = none ∧ l = 0) ∨ ∃ y k, lo = some y ∧ ρ y = .x (.int k l)) (hhi : (hi = none ∧ h = n) ∨ ∃ y k, hi = some y ∧ ρ y = .x (.int k h)) (h1 : l ≤ h) (h2 : h ≤ cap) : Evl P o ρ H (.x (.slice (if cap = l then some ⟨b, off, none⟩ else some ⟨b, off + l * size, none⟩) (h - l) (cap - l))) := by
  intro V a w Kc Q r hKc
  have hrun := run_sliceAt (P := P) t e size ht (some ⟨b, off, none⟩) n cap (lo.map a.eval) (hi.map a.eval) l h (by
    rcases hlo with ⟨rfl, rfl⟩ | ⟨y, k, rfl, hy⟩
    · exact .inl ⟨rfl, rfl⟩
    · exact .inr ⟨k, by rw [Option.map_some, r.evx (by simp [ho, Op.operands]) hy]⟩) (by
    rcases hhi with ⟨rfl, rfl⟩ | ⟨y, k, rfl, hy⟩
    · exact .inl ⟨rfl, rfl⟩
    · exact .inr ⟨k, by rw [Option.map_some, r.evx (by simp [ho, Op.operands]) hy]⟩) h1 h2 w
  unfold Oper.wp execOp
  simp only [ho, r.evx (by simp [ho, Op.operands]) hx, Option.map_none, hrun, Sem.run_bind, Sem.run_pure, Result.andThen_ok, Oper.upon]
  refine hKc _ _ (Below.refl _ _) ?_
  rw [Den]; simp [add_none]
/-- A row is known by its first elements alone. -/
theorem awp_shrink {c : Code} (i k : Nat) {ad : Option Addr} {n cap : Nat} {e : TypeId} {size : Nat} {cells : List AV} (hi : H[i]? = some (.row ad n cap e size cells)) (hk : k ≤ n) (h0 : k = 0 → n = 0 ∨ True) (hne : ad ≠ none)
    (h : awp P c Q T (H.set i (.row ad k cap e size (cells.take (k * size))))) : awp P c Q T H := fun V O w0 a w r => by
  refine h V O w0 a w (Rel.turnAt (y := .row ad k cap e size (cells.take (k * size))) r i hi rfl rfl rfl (Nat.le_refl _) (fun _ _ _ => rfl) (fun k' hk' => ⟨(r.hok.lt _ (List.mem_of_getElem? hi) k' hk').1, .inl hk'⟩) ?_)
  have hF : ∀ k', FB V (H.set i (.row ad k cap e size (cells.take (k * size)))) k' → FB V H k' := by
    intro k' hk'
    rcases hk' with hk' | ⟨z, hz, e⟩
    · exact .inl hk'
    · rcases List.mem_or_eq_of_mem_set hz with hz | rfl
      · exact .inr ⟨z, hz, e⟩
      · exact .inr ⟨_, List.mem_of_getElem? hi, e⟩
  obtain ⟨vals, hd, hown, h1⟩ := r.hp i _ hi
  refine ⟨vals.take (k * size), (hd.take _).weak hF, ?_, fun u hu => h1 u (List.mem_of_mem_take hu)⟩
  obtain ⟨hl, ⟨e0, rfl⟩ | ⟨g, cap', cur, e0, hbg, hg, hnc, hcm, hcs, htake⟩⟩ := hown
  · cases e0; exact absurd rfl hne
  · simp only [Value.slice.injEq] at e0
    obtain ⟨rfl, -, rfl⟩ := e0
    refine ⟨by rw [List.length_take, hl]; have := Nat.mul_le_mul_right size hk; omega, .inr ⟨g, cap, cur, rfl, hbg, hg, by omega, hcm, hcs, ?_⟩⟩
    rw [← htake, List.take_take]; congr 1; have := Nat.mul_le_mul_right size hk; omega
end
end Go.Proofs.YtfaljkenmbbbaaaDoor
/- A walk over symbolic memory: regions that draw their order and turn memory; jumps; clear. No program in sight. -/
namespace Go.Proofs.YtfaljkenmbbbaaaDoor
open Go.RowKit
set_option linter.unusedSimpArgs false
set_option linter.unusedVariables false
section
variable {P : Program} {V O : Nat → Prop} {w0 w w' : World} {H H' D : List Hp} {T T' : List AV} {a : Act} {o : Oper} {K : List AV → List Hp → Prop} {ρ : Operand → AV} {ops : Array Oper} {Q : Post} {F : Nat → Prop} {listed : Array Bool} {fuel : Nat}
/-- The i-th operation, reckoned by looking. -/
def nthO : List Oper → Nat → Option Oper
  | [], _ => none
  | o :: _, 0 => some o
  | _ :: l, n + 1 => nthO l n
theorem nthO_eq : ∀ (l : List Oper) (i : Nat), nthO l i = l[i]?
  | [], i => by simp [nthO]
  | o :: l, 0 => by simp [nthO]
  | o :: l, i + 1 => by simp [nthO, nthO_eq l i]
/-- The rest of such a region, those listed done. -/
def awpA (P : Program) (ops : Array Oper) (Q : Post) (fuel : Nat) (listed : Array Bool) (T : List AV) (H : List Hp) : Prop :=
  ∀ V O w0 a w, Rel V O w0 H T a w → wpAny P .any ops (lift V O w0 Q) fuel listed a w
theorem awp_drawnA {id : Nat} {l : List Oper} (hm : P.follows .mixedOrders = true) (h : awpA P l.toArray Q l.length (Array.replicate l.length false) T H) : awp P (.region id l.toArray true) Q T H :=
  awp_drawn hm fun V O w0 a w r => by have := h V O w0 a w r; simpa using this
theorem awpA_cong {T' : List AV} {H' : List Hp} (hT : T = T') (hH : H = H') (h : awpA P ops Q fuel listed T' H') : awpA P ops Q fuel listed T H := hT ▸ hH ▸ h
theorem awpA_done (hr : Region.ready .any ops listed = []) (h : Q .normal T H) : awpA P ops Q fuel listed T H := fun V O w0 a w r => wpAny_done hr ⟨T, H, r, h⟩ fuel
/-- What the operation gives hangs on no memory. -/
def WInd (P : Program) (o : Oper) (ρ : Operand → AV) (H : List Hp) (av : AV) : Prop :=
  ∀ (V : Nat → Prop) (a : Act) (w : World), OK V H ρ o a w → ∃ v, (∀ w', (execOp a.eval o).run P w' = .ok (.value v) w') ∧ Den (FB V H) w av v
def takeOk (ops : Array Oper) (listed : Array Bool) (i : Nat) : Bool := Region.noSelect ops && Region.free .any ops listed i && (Region.ready .any ops listed).contains i
theorem awpA_take (i : Nat) {o : Oper} {l : List Oper} (hi : nthO l i = some o) (hg : o.guard = none) (hc : takeOk l.toArray listed i = true) (hpan : ∀ c T H, ¬ Q (.panic c) T H) (av : AV) (h : WInd P o (ev T) H av) (hK : awpA P l.toArray Q fuel (listed.setIfInBounds i true) (putT T o.dst av) H) : awpA P l.toArray Q (fuel + 1) listed T H := by
  have hi : l.toArray[i]? = some o := by rw [List.getElem?_toArray, ← nthO_eq]; exact hi
  intro V O w0 a w r
  unfold takeOk at hc
  simp only [Bool.and_eq_true] at hc
  obtain ⟨v, hv, hd⟩ := h V a w (r.oks o)
  refine wpAny_take hi hc.1.1 hc.1.2 hc.2 (fun c a w ⟨T, H, _, hq⟩ => absurd hq (hpan c T H)) (.inl ⟨by simp [Region.wanted, hg], hv⟩) (hK V O w0 _ w (r.put _ hd))
theorem wpOp_of_stp {i : Nat} (hi : ops[i]? = some o) (hg : o.guard = none) (h : Stp P o T H K) (V O : Nat → Prop) (w0 : World) (r : Rel V O w0 H T a w) (Kc : Act → World → Prop) (Qc : Exit → Act → World → Prop) (hK : ∀ T' H' a' w', K T' H' → Rel V O w0 H' T' a' w' → Kc a' w') : wpOp P ops Qc i Kc a w := by
  unfold wpOp
  simp only [hi]
  rw [if_pos (by simp [Region.wanted, hg])]
  exact .inl (h V O w0 a w Kc Qc r hK)
/-- One operation may come up. -/
theorem awpA_1 (i : Nat) {o : Oper} {l : List Oper} (hr : Region.ready .any l.toArray listed = [i]) (hi : nthO l i = some o) (hg : o.guard = none) (h : Stp P o T H (awpA P l.toArray Q fuel (listed.setIfInBounds i true))) : awpA P l.toArray Q (fuel + 1) listed T H := fun V O w0 a w r =>
  wpAny_all hr (by simp) fun j hj => by
    rw [List.mem_singleton] at hj; subst hj
    have hi : l.toArray[j]? = some o := by rw [List.getElem?_toArray, ← nthO_eq]; exact hi
    exact wpOp_of_stp hi hg h V O w0 r _ _ fun T' H' a' w' hk hr => hk V O w0 a' w' hr
/-- One of two may come up. -/
theorem awpA_2 (i j : Nat) {o q : Oper} {l : List Oper} (hr : Region.ready .any l.toArray listed = [i, j]) (hi : nthO l i = some o) (hg : o.guard = none) (hj : nthO l j = some q) (hgj : q.guard = none) (h : Stp P o T H (awpA P l.toArray Q fuel (listed.setIfInBounds i true))) (h2 : Stp P q T H (awpA P l.toArray Q fuel (listed.setIfInBounds j true))) : awpA P l.toArray Q (fuel + 1) listed T H := fun V O w0 a w r =>
  wpAny_all hr (by simp) fun k hk => by
    have hi : l.toArray[i]? = some o := by rw [List.getElem?_toArray, ← nthO_eq]; exact hi
    have hj : l.toArray[j]? = some q := by rw [List.getElem?_toArray, ← nthO_eq]; exact hj
    rcases List.mem_cons.1 hk with rfl | hk
    · exact wpOp_of_stp hi hg h V O w0 r _ _ fun T' H' a' w' hk hr => hk V O w0 a' w' hr
    · rw [List.mem_singleton] at hk; subst hk
      exact wpOp_of_stp hj hgj h2 V O w0 r _ _ fun T' H' a' w' hk hr => hk V O w0 a' w' hr
theorem WInd_mv (x : Operand) (ho : o.op = .move x) : WInd P o ρ H (ρ x) := fun V a w r => ⟨a.eval x, fun w' => by simp [execOp, ho], r.ops x (by simp [ho, Op.operands])⟩
theorem WInd_as (x : Operand) (ho : o.op = .assign x) : WInd P o ρ H (ρ x) := fun V a w r => ⟨a.eval x, fun w' => by simp [execOp, ho], r.ops x (by simp [ho, Op.operands])⟩
theorem WInd_x (v : Value) (hs : ∀ cs b, o.op ≠ .select cs b) (hx : (o.op.operands.toList.all fun x => (ρ x).ex) = true)
    (hrun : ∀ w, (execOp (fun x => (ρ x).val) o).run P w = .ok (.value v) w) : WInd P o ρ H (.x v) := fun V a w r => ⟨v, fun w' => by
  have he : execOp a.eval o = execOp (fun x => (ρ x).val) o := execOp_congr o hs fun x h => by
    have hex := List.all_eq_true.1 hx x (by simpa using h)
    have hd := r.ops x h
    cases hv : ρ x with
    | x v => rw [hv, Den] at hd; rw [hd]; rfl
    | _ => rw [hv] at hex; cases hex
  rw [he]; exact hrun w', by rw [Den]⟩
theorem WInd_nil (x : Operand) (b off : Nat) (ho : o.op = .nilCheck x) (hx : ρ x = .x (.pointer (some ⟨b, off, none⟩))) : WInd P o ρ H (.x (.pointer (some ⟨b, off, none⟩))) := fun V a w r =>
  ⟨.pointer (some ⟨b, off, none⟩), fun w' => by simp [execOp, ho, r.evx (by simp [ho, Op.operands]) hx], by rw [Den]⟩
theorem WInd_field_x (s : TypeId) (x : Operand) (f k b off : Nat) (ho : o.op = .fieldAddr s x f) (hx : ρ x = .x (.pointer (some ⟨b, off, none⟩))) (hk : fldT P s f = some k) : WInd P o ρ H (.x (.pointer (some ⟨b, off + k, none⟩))) := fun V a w r =>
  ⟨.pointer (some ⟨b, off + k, none⟩), fun w' => by simp [execOp, ho, r.evx (by simp [ho, Op.operands]) hx, run_fieldAt s f k hk], by rw [Den]⟩
theorem WInd_index_own (t e : TypeId) (x y : Operand) (size b off n cap : Nat) (k : IntKind) (i : Int) (j : Nat) (ho : o.op = .indexAddr t x y) (hx : ρ x = .x (.slice (some ⟨b, off, none⟩) n cap)) (hy : ρ y = .x (.int k i)) (ht : elT P t = some (e, size)) (hi : i = (j : Int)) (h1 : j < n) : WInd P o ρ H (.x (.pointer (some ⟨b, off + j * size, none⟩))) := by
  subst hi
  exact fun V a w r => ⟨.pointer (some ⟨b, off + j * size, none⟩), fun w' => by simp [execOp, ho, r.evx (x := x) (by simp [ho, Op.operands]) hx, r.evx (x := y) (by simp [ho, Op.operands]) hy, run_indexAt t e size ht b off n cap k j (by omega) (by omega)], by rw [Den]⟩
theorem WInd_k (n : Nat) {av : AV} (hk : opk o.op = n) (h : WInd P o ρ H av) : WInd P o ρ H av := h

/-- A guard that says no. -/
theorem awpL_gf {rest : List Oper} {j : Nat} {want : Bool} {t : Nat} {T' : List AV} (hg : o.guard = some (j, want)) (hd : (ops[j]?).bind (·.dst) = some t) (hp : gdc want (T.getD t .top) = some false) (hT : putT T o.dst (.x undef) = T') (hK : awpL P ops Q rest T' H) : awpL P ops Q (o :: rest) T H := fun V O w0 a w r =>
  wpList_step fun K hKc => by
    rw [wanted_of r hg hd hp]
    simp only [Bool.false_eq_true, if_false]
    exact hKc _ _ ((hT ▸ hK) V O w0 _ _ (r.put _ (by rw [Den])))
theorem dr_gf {rest : List Oper} {fin : List AV → Prop} {j : Nat} {want : Bool} {t : Nat} {T' : List AV} (hg : o.guard = some (j, want)) (hd : (ops[j]?).bind (·.dst) = some t) (hp : gdc want (T.getD t .top) = some false) (hT : putT T o.dst (.g false .top) = T') (hK : dr P H ops rest T' fin) : dr P H ops (o :: rest) T fin :=
  dr_g false .top hg hd hp (fun h => by cases h) (hT ▸ hK)
/-! ### Jumps -/

def jumpA (l : Nat) (J : List AV → List Hp → Prop) (Q : Post) : Post
  | .goto l', T, H => l' = l ∧ J T H
  | e, T, H => Q e T H
theorem jumpA_normal {l : Nat} {J : List AV → List Hp → Prop} (h : Q .normal T H) : jumpA l J Q .normal T H := h
theorem jumpA_exit {l id : Nat} {J : List AV → List Hp → Prop} (h : Q (.exit id) T H) : jumpA l J Q (.exit id) T H := h
theorem jumpA_ret {l : Nat} {J : List AV → List Hp → Prop} (h : Q .ret T H) : jumpA l J Q .ret T H := h
theorem jumpA_goto {l : Nat} {J : List AV → List Hp → Prop} (h : J T H) : jumpA l J Q (.goto l) T H := ⟨rfl, h⟩
theorem awp_label {l : Nat} (h : Q .normal T H) : awp P (.label l) Q T H := fun V O w0 a w r => wp_label ⟨T, H, r, h⟩
theorem awp_goto {l : Nat} (h : Q (.goto l) T H) : awp P (.goto l) Q T H := fun V O w0 a w r => wp_goto ⟨T, H, r, h⟩
/-- A piece of code in which the run jumps back to one label. -/
theorem awp_scopeS {S : Type} {c rest : Code} (l : Nat) (Tf : S → List AV) (Hf : S → List Hp) (Inv : S → Prop) (m : S → Nat) (hf : findLabel c l = some rest)
    (first : awp P c (jumpA l (fun T' H' => ∃ s', Inv s' ∧ Weak H' T' (Hf s') (Tf s')) Q) T H)
    (pass : ∀ s, Inv s → awp P rest (jumpA l (fun T' H' => ∃ s', m s' < m s ∧ Inv s' ∧ Weak H' T' (Hf s') (Tf s')) Q) (Tf s) (Hf s)) : awp P (.scope c) Q T H := by
  intro V O w0 a w r b k cs
  have hg : gotoIn l (.inScope c :: k) = some (.code rest :: .inScope c :: k) := by simp [gotoIn, hf]
  have key : ∀ n s a w, m s = n → Inv s → Rel V O w0 (Hf s) (Tf s) a w → ∃ e a' w', lift V O w0 Q e a' w' ∧ Arrives P (lone (b.at a (.code rest :: .inScope c :: k)) cs w) b k cs e a' w' := by
    intro n
    induction n using Nat.strongRecOn with
    | _ n ih =>
      intro s a w hn hI hr
      obtain ⟨e, a₁, w₁, ⟨T1, H1, r1, q1⟩, harr⟩ := pass s hI V O w0 a w hr b (.inScope c :: k) cs
      cases e with
      | normal => exact ⟨.normal, a₁, w₁, ⟨T1, H1, r1, q1⟩, Steps.trans harr (.one step_inScope)⟩
      | exit id => exact ⟨.exit id, a₁, w₁, ⟨T1, H1, r1, q1⟩, fun k' hk => harr k' (by simp [exitTo, hk])⟩
      | goto l' =>
        obtain ⟨rfl, s', hlt, hI', hw⟩ := q1
        obtain ⟨e₂, a₂, w₂, hq₂, harr₂⟩ := ih (m s') (by omega) s' a₁ w₁ rfl hI' (r1.weaken hw)
        exact ⟨e₂, a₂, w₂, hq₂, .of_steps (harr _ hg) harr₂⟩
      | ret => exact ⟨_, a₁, w₁, ⟨T1, H1, r1, q1⟩, harr⟩
      | panic ch => exact ⟨_, a₁, w₁, ⟨T1, H1, r1, q1⟩, harr⟩
      | outgrown => exact ⟨_, a₁, w₁, ⟨T1, H1, r1, q1⟩, harr⟩
  obtain ⟨e, a₁, w₁, ⟨T1, H1, r1, q1⟩, harr⟩ := first V O w0 a w r b (.inScope c :: k) cs
  cases e with
  | normal => exact ⟨.normal, a₁, w₁, ⟨T1, H1, r1, q1⟩, .head step_scope (Steps.trans harr (.one step_inScope))⟩
  | exit id => exact ⟨.exit id, a₁, w₁, ⟨T1, H1, r1, q1⟩, fun k' hk => .head step_scope (harr k' (by simp [exitTo, hk]))⟩
  | goto l' =>
    obtain ⟨rfl, s', hI', hw⟩ := q1
    obtain ⟨e₂, a₂, w₂, hq₂, harr₂⟩ := key _ s' a₁ w₁ rfl hI' (r1.weaken hw)
    exact ⟨e₂, a₂, w₂, hq₂, .of_steps (.head step_scope (harr _ hg)) harr₂⟩
  | ret => exact ⟨_, a₁, w₁, ⟨T1, H1, r1, q1⟩, .of_steps (.one step_scope) harr⟩
  | panic ch => exact ⟨_, a₁, w₁, ⟨T1, H1, r1, q1⟩, .of_steps (.one step_scope) harr⟩
  | outgrown => exact ⟨_, a₁, w₁, ⟨T1, H1, r1, q1⟩, .of_steps (.one step_scope) harr⟩
end
end Go.Proofs.YtfaljkenmbbbaaaDoor
