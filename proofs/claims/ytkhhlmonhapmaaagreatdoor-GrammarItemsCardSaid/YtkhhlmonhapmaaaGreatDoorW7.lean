import Derived.Test.YtkhhlmonhapmaaaGreatDoorW6
/- A walk over symbolic memory: quiet calls, regions that draw their order. No program in sight. -/
namespace Go.Proofs.YtkhhlmonhapmaaaGreatDoor
open Go.RowKit
set_option linter.unusedSimpArgs false
set_option linter.unusedVariables false
section
variable {P : Program} {Δ : List Deferred} {V O : Nat → Prop} {w0 w w' : World} {H H' D : List Hp} {T T' : List AV} {a : Act} {o : Oper} {K : List AV → List Hp → Prop} {ρ : Operand → AV} {ops : Array Oper} {Q : Post}
theorem denL_ops (r : OK V H ρ o a w) : ∀ l : List Operand, (∀ x ∈ l, x ∈ o.op.operands) → DenL (FB V H) w (l.map ρ) (l.map a.eval)
  | [], _ => by simp [DenL]
  | x :: l, h => by simp only [List.map_cons]; rw [DenL]; exact ⟨_, _, rfl, r.ops x (h x (by simp)), denL_ops r l fun y hy => h y (by simp [hy])⟩
theorem Evl_call {c : Operand} {args : Array Operand} {tys : Array TypeId} {fs cs : Array Value} (f : FuncId) (fn : Func) (avs : List AV) (res : AV) (ho : o.op = .call { callee := .value c, args := args, argTypes := tys }) (hc : ρ c = .x (.func (.func f) fs cs))
    (hf : P.funcs[f]? = some fn) (hn : fn.name ≠ "runtime.NumGoroutine") (hb : fn.body.isSome = true) (hargs : VwL [] (fs.toList.map .x ++ args.toList.map ρ ++ cs.toList.map .x) avs) (hS : Spec P f [] avs fun r H' => r = res ∧ H' = []) : Evl P o ρ H res := by
  intro V a w Kc Qc r hKc
  have hmem : ∀ x ∈ args.toList, x ∈ o.op.operands := fun x hx => by simp [ho, Op.operands, Call.operands]; exact .inr (by simpa using hx)
  have hd : DenL (FB V H) w avs (fs.toList ++ args.toList.map a.eval ++ cs.toList) := hargs.den (fun k hk => hk) (fun h hh => by cases hh) _ ((DenL.exact.app (denL_ops r _ hmem)).app DenL.exact)
  have hFF : ∀ k, FB (FB V H) [] k → FB V H k := fun k hk => by
    rcases hk with hk | ⟨x, hx, _⟩
    · exact hk
    · cases hx
  refine wp_call_of ho (r.evx (by simp [ho, Op.operands, Call.operands]) hc) hf hn hb (vs := (fs.toList ++ args.toList.map a.eval ++ cs.toList).toArray) (by apply Array.toList_inj.1; simp) ?_
  refine (hS (FB V H) w _ (fun k hk => by
    rcases hk with hk | ⟨x, hx, e⟩
    · exact r.vlt k hk
    · exact (r.hok.lt x hx k e).1) ⟨fun x hx => (by cases hx), .nil, fun x hx => (by cases hx)⟩ (hd.weak hFF) ⟨fun k _ ⟨x, hx, _⟩ => (by cases hx), r.gw⟩).mono ?_
  rintro e w' ⟨res', H', v, ⟨rfl, rfl⟩, rfl, hdv, _, hfr, _⟩
  have hE : Ext w w' := ⟨hfr.os, hfr.tape, hfr.output, hfr.size, fun k hk => hfr.block k hk fun ⟨y, hy, _⟩ => by cases hy⟩
  exact ⟨v, rfl, hKc v w' hE (hdv.weak fun k hk => .inl hk)⟩

/-! ### Regions that draw their order -/

def Ent (P : Program) (ops : Array Oper) (o : Oper) (T : List AV) (H : List Hp) (e : AV) : Prop :=
  (o.guard = none ∧ Evl P o (ev T) H e) ∨ ∃ j want t p av, o.guard = some (j, want) ∧ (ops[j]?).bind (·.dst) = some t ∧ gdc want (T.getD t .top) = some p ∧ e = .g p av ∧ (p = true → Evl P o (evs T) H av)
def dr (P : Program) (H : List Hp) (ops : Array Oper) : List Oper → List AV → (List AV → Prop) → Prop
  | [], T, fin => fin T
  | o :: rest, T, fin => ∃ e, Ent P ops o T H e ∧ dr P H ops rest (putT T o.dst e) fin
theorem dr_nil {fin : List AV → Prop} (h : fin T) : dr P H ops [] T fin := h
theorem dr_evl {rest : List Oper} {fin : List AV → Prop} (hg : o.guard = none) (av : AV) (h : Evl P o (ev T) H av) (hK : dr P H ops rest (putT T o.dst av) fin) : dr P H ops (o :: rest) T fin := ⟨av, .inl ⟨hg, h⟩, hK⟩
theorem dr_g {rest : List Oper} {fin : List AV → Prop} {j : Nat} {want : Bool} {t : Nat} (p : Bool) (av : AV) (hg : o.guard = some (j, want)) (hd : (ops[j]?).bind (·.dst) = some t) (hp : gdc want (T.getD t .top) = some p)
    (h : p = true → Evl P o (evs T) H av) (hK : dr P H ops rest (putT T o.dst (.g p av)) fin) : dr P H ops (o :: rest) T fin := ⟨_, .inr ⟨j, want, t, p, av, hg, hd, hp, rfl, h⟩, hK⟩
def looks (ops : List Oper) (o : Oper) : List Nat :=
  (o.op.operands.toList.filterMap fun | .tmp t => some t | _ => none) ++ (match o.guard with | some (j, _) => ((ops[j]?).bind (·.dst)).toList | none => [])
def regOk (l : List Oper) : Bool :=
  (l.zipIdx.all fun (o, i) => o.after.toList.all fun e => Region.binds .any e && decide (e.on < i)) &&
  (l.zipIdx.all fun (o, i) => l.zipIdx.all fun (q, j) => q.dst.isNone || i == j || q.dst != o.dst) &&
  (l.zipIdx.all fun (o, i) => (looks l o).all fun t => l.zipIdx.all fun (q, j) => q.dst != some t || i == j || o.after.toList.any (·.on == j) || q.after.toList.any (·.on == i))
def seqT (l : List Oper) (es : Nat → AV) (T : List AV) : Nat → List AV
  | 0 => T
  | k + 1 => putT (seqT l es T k) ((l[k]?).bind (·.dst)) (es k)
def lisT (l : List Oper) (es : Nat → AV) (T : List AV) (S : Nat → Bool) : Nat → List AV
  | 0 => T
  | k + 1 => if S k then putT (lisT l es T S k) ((l[k]?).bind (·.dst)) (es k) else lisT l es T S k
theorem putT_len (T : List AV) (d : Option Tmp) (av : AV) : (putT T d av).length = T.length := by cases d <;> simp [putT]
theorem lisT_len (l : List Oper) (es : Nat → AV) (T : List AV) (S : Nat → Bool) (k : Nat) : (lisT l es T S k).length = T.length := by
  induction k with
  | zero => rfl
  | succ k ih => simp only [lisT]; split <;> simp [putT_len, ih]
theorem putT_ne {T : List AV} {d : Option Tmp} {av : AV} {t : Nat} (h : d ≠ some t) : (putT T d av)[t]? = T[t]? := by
  cases d with
  | none => rfl
  | some d => simp only [putT]; rw [List.getElem?_set_ne]; exact fun e => h (by rw [e])
theorem putT_eq {T : List AV} {av : AV} {t : Nat} (h : t < T.length) : (putT T (some t) av)[t]? = some av := by simp [putT, h]
theorem lisT_none (l : List Oper) (es : Nat → AV) (T : List AV) (S : Nat → Bool) (t : Nat) : ∀ k, (∀ j, j < k → S j = true → (l[j]?).bind (·.dst) ≠ some t) → (lisT l es T S k)[t]? = T[t]?
  | 0, _ => rfl
  | k + 1, h => by
    simp only [lisT]
    have ih := lisT_none l es T S t k fun j hj => h j (by omega)
    split
    · rename_i hs; rw [putT_ne (h k (by omega) hs)]; exact ih
    · exact ih
theorem lisT_one (l : List Oper) (es : Nat → AV) (T : List AV) (S : Nat → Bool) (t : Nat) (ht : t < T.length) (j : Nat) (hS : S j = true) (hd : (l[j]?).bind (·.dst) = some t) (hu : ∀ i, i ≠ j → (l[i]?).bind (·.dst) ≠ some t) :
    ∀ k, j < k → (lisT l es T S k)[t]? = some (es j)
  | 0, h => by omega
  | k + 1, h => by
    simp only [lisT]
    by_cases hk : j = k
    · subst hk
      rw [if_pos hS, hd]
      exact putT_eq (by rw [lisT_len]; exact ht)
    · have ih := lisT_one l es T S t ht j hS hd hu k (by omega)
      split
      · rw [putT_ne (hu k (fun e => hk e.symm))]; exact ih
      · exact ih
theorem seqT_lis (l : List Oper) (es : Nat → AV) (T : List AV) (S : Nat → Bool) : ∀ k, (∀ j, j < k → S j = true) → lisT l es T S k = seqT l es T k
  | 0, _ => rfl
  | k + 1, h => by simp only [lisT, seqT]; rw [if_pos (h k (by omega)), seqT_lis l es T S k fun j hj => h j (by omega)]
theorem dr_es {fin : List AV → Prop} (l : List Oper) (T0 : List AV) : ∀ (rest : List Oper) (k : Nat) (es : Nat → AV), l.drop k = rest → dr P H ops rest (seqT l es T0 k) fin →
    ∃ es' : Nat → AV, (∀ j, j < k → es' j = es j) ∧ (∀ j o, k ≤ j → l[j]? = some o → Ent P ops o (seqT l es' T0 j) H (es' j)) ∧ fin (seqT l es' T0 l.length)
  | [], k, es, hl, h => by
    have hk : l.length ≤ k := by simpa using hl
    refine ⟨es, fun _ _ => rfl, fun j o hj hjo => ?_, ?_⟩
    · have := (List.getElem?_eq_some_iff.1 hjo).1; omega
    · simp only [dr] at h
      have : seqT l es T0 k = seqT l es T0 l.length := by
        clear h hl
        induction k with
        | zero => have : l.length = 0 := by omega
                  rw [this]
        | succ k ih =>
          by_cases hk2 : l.length ≤ k
          · rw [← ih hk2]; simp [seqT, List.getElem?_eq_none hk2, putT]
          · have : l.length = k + 1 := by omega
            rw [this]
      rw [← this]; exact h
  | o :: rest, k, es, hl, h => by
    simp only [dr] at h
    obtain ⟨e, he, hr⟩ := h
    have hko : l[k]? = some o := by
      have := congrArg (fun x => x[0]?) hl
      simpa using this
    have hsame : ∀ j, j ≤ k → seqT l (fun i => if i = k then e else es i) T0 j = seqT l es T0 j := by
      intro j
      induction j with
      | zero => intro _; rfl
      | succ j ih => intro hj; simp only [seqT]; rw [ih (by omega), if_neg (by omega)]
    obtain ⟨es', h1, h2, h3⟩ := dr_es (fin := fin) l T0 rest (k + 1) (fun i => if i = k then e else es i) (by
      have := congrArg List.tail hl
      simpa [List.tail_drop] using this) (by
      simp only [seqT]
      rw [hsame k (by omega), hko]
      simpa using hr)
    refine ⟨es', fun j hj => by rw [h1 j (by omega)]; simp; omega, fun j o' hj hjo => ?_, h3⟩
    by_cases hjk : j = k
    · subst hjk
      rw [hko] at hjo; cases hjo
      have e1 : es' j = e := by rw [h1 j (by omega)]; simp
      have e2 : seqT l es' T0 j = seqT l es T0 j := by
        have : ∀ i, i ≤ j → seqT l es' T0 i = seqT l es T0 i := by
          intro i
          induction i with
          | zero => intro _; rfl
          | succ i ih => intro hi; simp only [seqT]; rw [ih (by omega), h1 i (by omega), if_neg (by omega)]
        exact this j (Nat.le_refl _)
      rw [e1, e2]; exact he
    · exact h2 j o' (by omega) hjo
def cnt (S : Nat → Bool) : Nat → Nat
  | 0 => 0
  | k + 1 => cnt S k + if S k then 0 else 1
theorem cnt_le (S S' : Nat → Bool) (h : ∀ j, S j = true → S' j = true) : ∀ k, cnt S' k ≤ cnt S k
  | 0 => Nat.le_refl _
  | k + 1 => by
    have := cnt_le S S' h k
    simp only [cnt]
    by_cases hs : S k = true
    · simp [hs, h k hs]; exact this
    · simp [hs]; split <;> omega
theorem cnt_lt (S S' : Nat → Bool) (h : ∀ j, S j = true → S' j = true) (i : Nat) (h1 : S i = false) (h2 : S' i = true) : ∀ k, i < k → cnt S' k < cnt S k
  | 0, hk => by omega
  | k + 1, hk => by
    simp only [cnt]
    by_cases hik : i = k
    · subst hik
      have := cnt_le S S' h i
      simp [h1, h2]; omega
    · have := cnt_lt S S' h i h1 h2 k (by omega)
      by_cases hs : S k = true
      · simp [hs, h k hs]; exact this
      · simp [hs]; split <;> omega
theorem cnt_zero (S : Nat → Bool) : ∀ k, cnt S k = 0 → ∀ j, j < k → S j = true
  | 0, _, j, hj => by omega
  | k + 1, h, j, hj => by
    simp only [cnt] at h
    by_cases hjk : j = k
    · subst hjk
      cases hs : S j with
      | true => rfl
      | false => simp [hs] at h
    · exact cnt_zero S k (by omega) j (by omega)
structure RegOk (l : List Oper) : Prop where
  after : ∀ (i : Nat) (o : Oper), l[i]? = some o → ∀ e ∈ o.after, Region.binds .any e = true ∧ e.on < i
  one : ∀ (i j : Nat) (o q : Oper) (t : Nat), l[i]? = some o → l[j]? = some q → o.dst = some t → q.dst = some t → i = j
  look : ∀ (i j : Nat) (o q : Oper) (t : Nat), l[i]? = some o → l[j]? = some q → t ∈ looks l o → q.dst = some t → i = j ∨ (∃ e ∈ o.after, e.on = j) ∨ ∃ e ∈ q.after, e.on = i
theorem regOk_of {l : List Oper} (h : regOk l = true) : RegOk l := by
  unfold regOk at h
  simp only [Bool.and_eq_true, List.all_eq_true] at h
  obtain ⟨⟨h1, h2⟩, h3⟩ := h
  have hz : ∀ (i : Nat) (o : Oper), l[i]? = some o → (o, i) ∈ l.zipIdx := fun i o hi => by
    rw [List.mem_zipIdx_iff_getElem?]; exact hi
  refine ⟨fun i o hi e he => ?_, fun i j o q t hi hj ho hq => ?_, fun i j o q t hi hj ht hq => ?_⟩
  · have := h1 (o, i) (hz i o hi) e (by simpa using he)
    simpa using this
  · have := h2 (o, i) (hz i o hi) (q, j) (hz j q hj)
    simpa [ho, hq] using this
  · have := h3 (o, i) (hz i o hi) t ht (q, j) (hz j q hj)
    simp [hq] at this
    rcases this with (h | h) | h
    · exact .inl h
    · exact .inr (.inl (by obtain ⟨k, hk, e2⟩ := h; first | exact ⟨_, Array.getElem_mem hk, e2⟩ | fail))
    · exact .inr (.inr (by obtain ⟨k, hk, e2⟩ := h; first | exact ⟨_, Array.getElem_mem hk, e2⟩ | fail))
theorem bind_dst {l : List Oper} {j t : Nat} (h : (l[j]?).bind (·.dst) = some t) : ∃ q, l[j]? = some q ∧ q.dst = some t := Option.bind_eq_some_iff.1 h
theorem lis_seq {l : List Oper} (hr : RegOk l) (es : Nat → AV) (T0 : List AV) (S : Nat → Bool) (hcl : ∀ j q, l[j]? = some q → S j = true → ∀ e ∈ q.after, S e.on = true) (i : Nat) (o : Oper) (hi : l[i]? = some o) (hSi : S i = false) (haf : ∀ e ∈ o.after, S e.on = true) (t : Nat) (ht : t ∈ looks l o) :
    (lisT l es T0 S l.length)[t]? = (seqT l es T0 i)[t]? := by
  by_cases hlt : t < T0.length
  · rw [← seqT_lis l es T0 (fun _ => true) i fun _ _ => rfl]
    by_cases hw : ∃ (j : Nat) (q : Oper), l[j]? = some q ∧ q.dst = some t
    · obtain ⟨j, q, hj, hq⟩ := hw
      have hjl := (List.getElem?_eq_some_iff.1 hj).1
      have huniq : ∀ k, k ≠ j → (l[k]?).bind (·.dst) ≠ some t := fun k hk hb => by
        obtain ⟨q', hk', hq'⟩ := bind_dst hb
        exact hk (hr.one k j q' q t hk' hj hq' hq)
      have hdj : (l[j]?).bind (·.dst) = some t := by rw [hj]; exact hq
      rcases hr.look i j o q t hi hj ht hq with rfl | ⟨e, he, rfl⟩ | ⟨e, he, rfl⟩
      · rw [lisT_none l es T0 S t _ fun k hk hs hb => by
          by_cases hki : k = i
          · subst hki; rw [hSi] at hs; cases hs
          · exact huniq k hki hb, lisT_none l es T0 (fun _ => true) t _ fun k hk hs => huniq k (by omega)]
      · rw [lisT_one l es T0 S t hlt _ (haf e he) hdj huniq _ hjl, lisT_one l es T0 (fun _ => true) t hlt _ rfl hdj huniq _ (hr.after i o hi e he).2]
      · have hSj : S j = false := by
          cases hs : S j with
          | false => rfl
          | true => have := hcl j q hj hs e he; rw [hSi] at this; cases this
        have hji := (hr.after j q hj e he).2
        rw [lisT_none l es T0 S t _ fun k hk hs hb => by
          by_cases hkj : k = j
          · subst hkj; rw [hSj] at hs; cases hs
          · exact huniq k hkj hb, lisT_none l es T0 (fun _ => true) t _ fun k hk hs => huniq k (by omega)]
    · have hn : ∀ k : Nat, (l[k]?).bind (·.dst) ≠ some t := fun k hb => by
        obtain ⟨q', hk', hq'⟩ := bind_dst hb
        exact hw ⟨k, q', hk', hq'⟩
      rw [lisT_none _ _ _ _ _ _ fun k _ _ => hn k, lisT_none _ _ _ _ _ _ fun k _ _ => hn k]
  · have h1 : (lisT l es T0 S l.length).length ≤ t := by rw [lisT_len]; omega
    have h2 : (seqT l es T0 i).length ≤ t := by rw [← seqT_lis l es T0 (fun _ => true) i fun _ _ => rfl, lisT_len]; omega
    rw [List.getElem?_eq_none h1, List.getElem?_eq_none h2]
theorem lis_put {l : List Oper} (hr : RegOk l) (es : Nat → AV) (T0 : List AV) (S S' : Nat → Bool) (i : Nat) (o : Oper) (hi : l[i]? = some o) (hSi : S i = false) (h1 : S' i = true) (h2 : ∀ j, j ≠ i → S' j = S j) :
    putT (lisT l es T0 S l.length) o.dst (es i) = lisT l es T0 S' l.length := by
  apply List.ext_getElem?
  intro t
  have hil := (List.getElem?_eq_some_iff.1 hi).1
  by_cases hlt : t < T0.length
  · by_cases hot : o.dst = some t
    · have huniq : ∀ k, k ≠ i → (l[k]?).bind (·.dst) ≠ some t := fun k hk hb => by
        obtain ⟨q', hk', hq'⟩ := bind_dst hb
        exact hk (hr.one k i q' o t hk' hi hq' hot)
      rw [hot, putT_eq (by rw [lisT_len]; exact hlt), lisT_one l es T0 S' t hlt i h1 (by rw [hi]; exact hot) huniq _ hil]
    · rw [putT_ne hot]
      by_cases hw : ∃ (j : Nat) (q : Oper), l[j]? = some q ∧ q.dst = some t
      · obtain ⟨j, q, hj, hq⟩ := hw
        have hjl := (List.getElem?_eq_some_iff.1 hj).1
        have huniq : ∀ k, k ≠ j → (l[k]?).bind (·.dst) ≠ some t := fun k hk hb => by
          obtain ⟨q', hk', hq'⟩ := bind_dst hb
          exact hk (hr.one k j q' q t hk' hj hq' hq)
        have hdj : (l[j]?).bind (·.dst) = some t := by rw [hj]; exact hq
        have hji : j ≠ i := fun e => by subst e; rw [hi] at hj; cases hj; exact hot hq
        cases hs : S j with
        | true => rw [lisT_one l es T0 S t hlt j hs hdj huniq _ hjl, lisT_one l es T0 S' t hlt j (by rw [h2 j hji]; exact hs) hdj huniq _ hjl]
        | false =>
          rw [lisT_none l es T0 S t _ fun k hk hks hb => ?_, lisT_none l es T0 S' t _ fun k hk hks hb => ?_]
          · by_cases hkj : k = j
            · subst hkj; rw [h2 k hji, hs] at hks; cases hks
            · exact huniq k hkj hb
          · by_cases hkj : k = j
            · subst hkj; rw [hs] at hks; cases hks
            · exact huniq k hkj hb
      · have hn : ∀ k : Nat, (l[k]?).bind (·.dst) ≠ some t := fun k hb => by
          obtain ⟨q', hk', hq'⟩ := bind_dst hb
          exact hw ⟨k, q', hk', hq'⟩
        rw [lisT_none _ _ _ _ _ _ fun k _ _ => hn k, lisT_none _ _ _ _ _ _ fun k _ _ => hn k]
  · rw [List.getElem?_eq_none (by rw [putT_len, lisT_len]; omega), List.getElem?_eq_none (by rw [lisT_len]; omega)]
theorem ev_of {T1 T2 : List AV} {x : Operand} (h : ∀ t, x = .tmp t → T1[t]? = T2[t]?) : ev T1 x = ev T2 x := by
  cases x with
  | tmp t => simp only [ev, List.getD, h t rfl]
  | _ => rfl
theorem awp_drawnQ {id : Nat} {l : List Oper} (hm : P.follows .mixedOrders = true) (hc : regOk l = true) (h : dr P H l.toArray l T fun T' => Q .normal T' H) : awp P (.region id l.toArray true) Q T H := by
  have hr := regOk_of hc
  obtain ⟨es, -, hE, hfin⟩ := dr_es (ops := l.toArray) l T l 0 (fun _ => .top) rfl h
  refine awp_drawn hm fun Δ V O w0 a w rel => ?_
  have hfin' : Q .normal (seqT l es T l.length) H := hfin
  have key : ∀ (fuel : Nat) (listed : Array Bool) (a : Act) (w : World), listed.size = l.length →
      (∀ j q, l[j]? = some q → listed.getD j false = true → ∀ e ∈ q.after, listed.getD e.on false = true) → cnt (fun j => listed.getD j false) l.length ≤ fuel →
      Rel Δ V O w0 H (lisT l es T (fun j => listed.getD j false) l.length) a w → wpAny P .any l.toArray (lift Δ V O w0 Q) fuel listed a w := by
    intro fuel
    induction fuel with
    | zero =>
      intro listed a w hsz hcl hcnt rel
      have hall := cnt_zero _ _ (Nat.le_zero.1 hcnt)
      refine ⟨?_, _, H, rel, ?_⟩
      · unfold Region.ready
        rw [List.filter_eq_nil_iff]
        intro i hi
        simp only [List.size_toArray, List.mem_range] at hi
        have := hall i hi
        have hi' : i < listed.size := by omega
        simp [Array.getD, hi'] at this ⊢
        simp [this]
      · rw [seqT_lis l es T _ _ hall]; exact hfin'
    | succ fuel ih =>
      intro listed a w hsz hcl hcnt rel
      have hget : ∀ i, i < l.length → listed.getD i true = listed.getD i false := fun i hi => by
        have hi' : i < listed.size := by omega
        simp [Array.getD, hi']
      refine ⟨fun hnil => ?_, fun i hi => ?_⟩
      · -- all are listed
        have hall : ∀ j, j < l.length → listed.getD j false = true := by
          intro j
          induction j using Nat.strongRecOn with
          | _ j ihj =>
            intro hj
            cases hs : listed.getD j false with
            | true => rfl
            | false =>
              exfalso
              unfold Region.ready at hnil
              rw [List.filter_eq_nil_iff] at hnil
              have := hnil j (by simpa using hj)
              apply this
              have hlj : l[j]? = some l[j] := by simp [hj]
              rw [hget j hj, hs]
              simp only [Bool.not_false, Bool.true_and, List.getElem?_toArray, hlj, Option.map_some, Option.getD_some]
              rw [Array.all_eq_true_iff_forall_mem]
              intro e he
              have h1 := hr.after j _ hlj e he
              rw [ihj e.on h1.2 (by omega)]
              simp
        exact ⟨_, H, rel, by rw [seqT_lis l es T _ _ hall]; exact hfin'⟩
      · unfold Region.ready at hi
        rw [List.mem_filter] at hi
        obtain ⟨hil, hrd⟩ := hi
        simp only [List.size_toArray, List.mem_range] at hil
        have hli : l[i]? = some l[i] := by simp [hil]
        rw [hget i hil] at hrd
        simp only [List.getElem?_toArray, hli, Option.map_some, Option.getD_some, Bool.and_eq_true, Bool.not_eq_true', Array.all_eq_true_iff_forall_mem] at hrd
        obtain ⟨hSi, haf⟩ := hrd
        have haf' : ∀ e ∈ l[i].after, listed.getD e.on false = true := fun e he => by
          have h1 := haf e he
          have h2 := hr.after i _ hli e he
          simpa [h2.1] using h1
        generalize ho : l[i] = o at hli haf'
        have hlook := lis_seq hr es T (fun j => listed.getD j false) hcl i o hli hSi haf'
        have hops : OK V H (ev (seqT l es T i)) o a w := by
          have h0 := rel.oks o
          refine ⟨h0.hok, fun x hx => ?_, h0.vlt, h0.gw⟩
          have := h0.ops x hx
          rw [ev_of (T2 := seqT l es T i) (fun t ht => hlook t (List.mem_append_left _ (List.mem_filterMap.2 ⟨x, by simpa using hx, by rw [ht]⟩)))] at this
          exact this
        have hnext : ∀ w' a', Rel Δ V O w0 H (putT (lisT l es T (fun j => listed.getD j false) l.length) o.dst (es i)) a' w' → wpAny P .any l.toArray (lift Δ V O w0 Q) fuel (listed.setIfInBounds i true) a' w' := by
          intro w' a' hrel
          have h1 : (listed.setIfInBounds i true).getD i false = true := by
            have : i < listed.size := by omega
            simp [Array.getD, this]
          have h2 : ∀ j, j ≠ i → (listed.setIfInBounds i true).getD j false = listed.getD j false := fun j hj => by
            simp only [Array.getD_eq_getD_getElem?]
            rw [Array.getElem?_setIfInBounds_ne (fun e => hj e.symm)]
          refine ih _ _ _ (by simpa using hsz) (fun j q hj hs e he => ?_) ?_ ?_
          · by_cases hji : j = i
            · subst hji
              rw [hli] at hj; cases hj
              have h3 := (hr.after j _ hli e he).2
              rw [h2 _ (by omega)]; exact haf' e he
            · rw [h2 j hji] at hs
              have h3 := hcl j q hj hs e he
              by_cases hei : e.on = i
              · rw [hei]; exact h1
              · rw [h2 _ hei]; exact h3
          · have := cnt_lt (fun j => listed.getD j false) (fun j => (listed.setIfInBounds i true).getD j false) (fun j hj => by
              by_cases hji : j = i
              · subst hji; exact h1
              · show (listed.setIfInBounds i true).getD j false = true
                rw [h2 j hji]; exact hj) i hSi h1 l.length hil
            omega
          · rw [← lis_put hr es T _ (fun j => (listed.setIfInBounds i true).getD j false) i o hli hSi h1 h2]; exact hrel
        unfold wpOp
        simp only [List.getElem?_toArray, hli]
        rcases hE i o (Nat.zero_le _) hli with ⟨hg, he⟩ | ⟨j, want, t, p, av, hg, hd, hp, he0, he⟩
        · rw [if_pos (by simp [Region.wanted, hg])]
          exact .inl (he V a w _ _ hops fun v w' hE' hd => hnext _ _ ((rel.quiet hE').put _ hd))
        · have htl : t ∈ looks l o := by
            refine List.mem_append_right _ ?_
            rw [hg]
            simp only [List.getElem?_toArray] at hd
            simp only [hd]; simp
          have hgd : (lisT l es T (fun j => listed.getD j false) l.length).getD t .top = (seqT l es T i).getD t .top := by
            simp only [List.getD, hlook t htl]
          rw [wanted_of rel hg hd (by rw [hgd]; exact hp)]
          cases hpb : p with
          | true =>
            rw [if_pos rfl]
            exact .inl (he hpb V a w _ _ hops.strip fun v w' hE' hd => hnext _ _ ((rel.quiet hE').put _ (by rw [he0, Den]; exact ⟨fun _ => hd, (fun h => by rw [hpb] at h; cases h)⟩)))
          | false =>
            rw [if_neg (by simp)]
            exact hnext _ _ (rel.put _ (by rw [he0, Den]; exact ⟨(fun h => by rw [hpb] at h; cases h), fun _ => rfl⟩))
  have hrep : ∀ j, (Array.replicate l.length false).getD j false = false := fun j => by simp [Array.getD]
  refine key _ _ a w (by simp) (fun j q _ hs => ?_) ?_ ?_
  · rw [List.size_toArray, hrep j] at hs; cases hs
  · have : ∀ k, cnt (fun j => (Array.replicate l.toArray.size false).getD j false) k ≤ k := fun k => by
      induction k with
      | zero => simp [cnt]
      | succ k ih => simp only [cnt]; split <;> omega
    simpa using this l.length
  · have : lisT l es T (fun j => (Array.replicate l.toArray.size false).getD j false) l.length = T := by
      have : ∀ k, lisT l es T (fun j => (Array.replicate l.toArray.size false).getD j false) k = T := fun k => by
        induction k with
        | zero => rfl
        | succ k ih => simp only [lisT]; rw [if_neg (by rw [List.size_toArray, hrep]; simp)]; exact ih
      exact this _
    rw [this]; exact rel
end
end Go.Proofs.YtkhhlmonhapmaaaGreatDoor
