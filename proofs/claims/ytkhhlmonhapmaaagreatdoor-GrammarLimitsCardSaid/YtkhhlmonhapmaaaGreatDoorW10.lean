import Derived.Test.YtkhhlmonhapmaaaGreatDoorW9
import Derived.OrdersHeld
/- A walk over symbolic memory: in a region that draws its order, loads out of the call's own variables may be taken first, if what writes them waits for these loads. No program in sight. -/
namespace Go.Proofs.YtkhhlmonhapmaaaGreatDoor
open Go.RowKit
set_option linter.unusedSimpArgs false
set_option linter.unusedVariables false
section
variable {P : Program} {md : Region.Mode} {ops : Array Oper} {Q : Exit → Act → World → Prop} {S : World → Prop} {D : List Nat}
def wpAnyP (P : Program) (md : Region.Mode) (ops : Array Oper) (Q : Exit → Act → World → Prop) (D : List Nat) (S : World → Prop) : Nat → Array Bool → Act → World → Prop
  | 0, listed, a, w => Region.ready md ops listed = [] ∧ Q .normal a w
  | n + 1, listed, a, w => (Region.ready md ops listed = [] → Q .normal a w) ∧
      ∀ j ∈ Region.ready md ops listed, wpOp P ops Q j (fun a' w' => (D.contains j = false → S w → S w') ∧ wpAnyP P md ops Q D S n (listed.setIfInBounds j true) a' w') a w
theorem wpAnyP.any : ∀ {n : Nat} {listed : Array Bool} {a : Act} {w : World}, wpAnyP P md ops Q D S n listed a w → wpAny P md ops Q n listed a w
  | 0, _, _, _, h => h
  | _ + 1, _, _, _, h => ⟨h.1, fun j hj => wpOp_mono (fun _ _ k => wpAnyP.any k.2) (h.2 j hj)⟩
theorem wpAnyP.rest : ∀ {n : Nat} {listed : Array Bool} {a : Act} {w : World}, (∀ j, j < ops.size → listed.getD j true = false → D.contains j = true) → wpAny P md ops Q n listed a w → wpAnyP P md ops Q D S n listed a w
  | 0, _, _, _, _, h => h
  | n + 1, listed, a, w, hD, h => ⟨h.1, fun j hj => wpOp_mono (fun a' w' k => by
      obtain ⟨h0, o, ho, _⟩ := mem_ready.1 hj
      have hlt : j < ops.size := (Array.getElem?_eq_some_iff.1 ho).1
      refine ⟨fun hn => (by rw [hD j hlt h0] at hn; cases hn), wpAnyP.rest (fun i hi h1 => hD i hi ?_) k⟩
      by_cases e : j = i
      · subst e; exact h0
      · rwa [getD_set_ne true e] at h1) (h.2 j hj)⟩
theorem wpAnyP.first {i : Nat} {oi : Oper} {v : Value} (hi : ops[i]? = some oi) (hsel : Region.noSelect ops = true) (hpan : ∀ c a w, Q (.panic c) (a.put oi.dst v) w → Q (.panic c) a w)
    (hD : ∀ j o, D.contains j = true → ops[j]? = some o → ∃ e ∈ o.after, Region.binds md e = true ∧ e.on = i) : ∀ {n : Nat} {listed : Array Bool} {a : Act} {w : World},
    (∀ j o, ops[j]? = some o → j ≠ i → listed.getD j true = false → (∀ e ∈ o.after, Region.binds md e = true → e.on ≠ i) → oi.apart ops o = true) →
    i ∈ Region.ready md ops listed → YieldsIf P ops S oi v a → S w → wpAnyP P md ops Q D S n (listed.setIfInBounds i true) (a.put oi.dst v) w → wpAnyP P md ops Q D S (n + 1) listed a w := by
  have hns := Region.noSelect_spec hsel
  have waits : ∀ {listed : Array Bool} {j : Nat}, i ∈ Region.ready md ops listed → j ∈ Region.ready md ops listed → ∃ o, ops[j]? = some o ∧ listed.getD j true = false ∧ ∀ e ∈ o.after, Region.binds md e = true → e.on ≠ i := by
    intro listed j hr hj
    obtain ⟨h0, o, ho, hall⟩ := mem_ready.1 hj
    have hn := (mem_ready.1 hr).1
    refine ⟨o, ho, h0, fun e he hb heq => ?_⟩
    have hl := heq ▸ hall e he hb
    by_cases hs : i < listed.size
    · simp [hs] at hn hl; simp [hn] at hl
    · simp [Array.getElem?_eq_none (Nat.le_of_not_lt hs)] at hl
  intro n
  induction n with
  | zero =>
    intro listed a w _ hr hy hS H
    refine ⟨fun h => by simp [h] at hr, fun j hj => ?_⟩
    by_cases e : j = i
    · subst e; exact hy.wpOp hi hS ⟨fun _ _ => hS, H⟩
    · have := ready_mono hj e
      rw [H.1] at this; cases this
  | succ n ih =>
    intro listed a w hap hr hy hS H
    refine ⟨fun h => by simp [h] at hr, fun j hj => ?_⟩
    by_cases e : j = i
    · subst e; exact hy.wpOp hi hS ⟨fun _ _ => hS, H⟩
    · obtain ⟨o, ho, h0, hw⟩ := waits hr hj
      have hjD : D.contains j = false := by
        cases hc : D.contains j with
        | false => rfl
        | true => obtain ⟨e', he', hb, heq⟩ := hD j o hc ho; exact absurd heq (hw e' he' hb)
      refine wpOp_mono (fun a' w' k => ?_) (wpOp_putIf ho (hap j o ho e h0 hw) (fun cs b => hns i oi cs b hi) (fun cs b => hns j o cs b ho) hpan hy (H.2 j (ready_mono hj e)))
      obtain ⟨hy', hk, hrest⟩ := k
      have hS' := hk hjD hS
      refine ⟨fun _ _ => hS', ih (fun k ok hk hki hun hno => hap k ok hk hki ?_ hno) (ready_mono hr (Ne.symm e)) hy' hS' ?_⟩
      · by_cases ejk : j = k
        · subst ejk; exact h0
        · rwa [getD_set_ne true ejk] at hun
      · rw [Array.setIfInBounds_comm _ _ e]; exact hrest
end
section
variable {P : Program} {Δ : List Deferred} {V O : Nat → Prop} {w0 w w' : World} {B H H' : List Hp} {T T' : List AV} {a a' : Act} {o : Oper} {ops : Array Oper} {Q : Post} {listed : Array Bool} {fuel : Nat} {D : List Nat}
def SameB (wr : World) (B : List Hp) (w : World) : Prop := ∀ k, blks B k → w.heap[k]? = wr.heap[k]?
theorem FB_app (B H : List Hp) (k : Nat) : FB (fun k => V k ∨ blks B k) H k ↔ FB V (B ++ H) k := by
  simp only [FB, blks, List.mem_append]
  constructor
  · rintro ((h | ⟨x, hx, e⟩) | ⟨x, hx, e⟩)
    · exact .inl h
    · exact .inr ⟨x, .inl hx, e⟩
    · exact .inr ⟨x, .inr hx, e⟩
  · rintro (h | ⟨x, hx | hx, e⟩)
    · exact .inl (.inl h)
    · exact .inl (.inr ⟨x, hx, e⟩)
    · exact .inr ⟨x, hx, e⟩
theorem Rel.aside (r : Rel Δ V O w0 (B ++ H) T a w) : Rel Δ (fun k => V k ∨ blks B k) (blks H) w H T a w where
  tmps := r.tmps.weak fun k hk => (FB_app B H k).1 hk
  hok := ⟨fun x hx => (r.hok.ok x (by simp [hx])).weak fun k hk => (FB_app B H k).1 hk, (List.pairwise_append.1 r.hok.apart).2.1, fun x hx k hk => ⟨(r.hok.lt x (by simp [hx]) k hk).1, fun hv => by
    rcases hv with hv | ⟨y, hy, e⟩
    · exact (r.hok.lt x (by simp [hx]) k hk).2 hv
    · exact (List.pairwise_append.1 r.hok.apart).2.2 y hy x hx k e hk⟩⟩
  fr := Fr.refl _ _
  own := fun x hx k hk => .inl ⟨x, hx, hk⟩
  defers := r.defers
  vlt := fun k hk => by
    rcases hk with hk | ⟨y, hy, e⟩
    · exact Nat.lt_of_lt_of_le (r.vlt k hk) r.fr.size
    · exact (r.hok.lt y (by simp [hy]) k e).1
  gl := r.gb.mono fun k ⟨x, hx, e⟩ => ⟨x, by simp [hx], e⟩
theorem Rel.rejoin (r : Rel Δ V O w0 (B ++ H) T a w) (r' : Rel Δ (fun k => V k ∨ blks B k) (blks H) w H' T' a' w') : Rel Δ V O w0 (B ++ H') T' a' w' ∧ SameB w B w' := by
  have hap := List.pairwise_append.1 r.hok.apart
  have hsame : SameB w B w' := fun k ⟨y, hy, e⟩ => r'.fr.block k (r.hok.lt y (by simp [hy]) k e).1 fun ⟨x, hx, e'⟩ => hap.2.2 y hy x hx k e e'
  have hF : ∀ k, FB V (B ++ H') k → FB V (B ++ H) k ∨ w.heap.size ≤ k := fun k hk => by
    rcases (FB_app B H' k).2 hk with hk | ⟨x, hx, e⟩
    · exact .inl ((FB_app B H k).1 (.inl hk))
    · rcases r'.own x hx k e with ⟨y, hy, e'⟩ | h
      · exact .inl ((FB_app B H k).1 (.inr ⟨y, hy, e'⟩))
      · exact .inr h
  have hw : ∀ k, k < w.heap.size → ¬ FB V (B ++ H) k → w'.heap[k]? = w.heap[k]? := fun k hk hn => r'.fr.block k hk fun ⟨y, hy, e⟩ => hn (.inr ⟨y, by simp [hy], e⟩)
  refine ⟨⟨r'.tmps.weak (fun k hk => (FB_app B H' k).2 hk), ⟨fun x hx => ?_, List.pairwise_append.2 ⟨hap.1, r'.hok.apart, fun x hx y hy k hk e => (r'.hok.lt y hy k e).2 (.inr ⟨x, hx, hk⟩)⟩, fun x hx k hk => ?_⟩, ?_, fun x hx k hk => ?_, r'.defers, r.vlt, r.gl⟩, hsame⟩
  · rcases List.mem_append.1 hx with hx | hx
    · exact (r.hok.ok x (by simp [hx])).conv hF hw r'.fr.size fun k hk => hsame k ⟨x, hx, hk⟩
    · exact (r'.hok.ok x hx).weak fun k hk => (FB_app B H' k).2 hk
  · rcases List.mem_append.1 hx with hx | hx
    · exact ⟨Nat.lt_of_lt_of_le (r.hok.lt x (by simp [hx]) k hk).1 r'.fr.size, (r.hok.lt x (by simp [hx]) k hk).2⟩
    · exact ⟨(r'.hok.lt x hx k hk).1, fun hv => (r'.hok.lt x hx k hk).2 (.inl hv)⟩
  · exact r.fr.trans r'.fr fun i hi ⟨y, hy, e⟩ => (r.own y (by simp [hy]) i e).resolve_right (by omega)
  · rcases List.mem_append.1 hx with hx | hx
    · exact r.own x (by simp [hx]) k hk
    · rcases r'.own x hx k hk with ⟨y, hy, e⟩ | h
      · exact r.own y (by simp [hy]) k e
      · exact .inr (Nat.le_trans r.fr.size h)
def awpP (P : Program) (ops : Array Oper) (Q : Post) (D : List Nat) (B : List Hp) (fuel : Nat) (listed : Array Bool) (T : List AV) (H : List Hp) : Prop :=
  ∀ Δ V O w0 wr a w, Rel Δ V O w0 (B ++ H) T a w → SameB wr B w → wpAnyP P .any ops (lift Δ V O w0 Q) D (SameB wr B) fuel listed a w
theorem awpP_drawn {id : Nat} {l : List Oper} (hm : P.follows .mixedOrders = true) (D : List Nat) (B R : List Hp) (hp : H.Perm (B ++ R)) (h : awpP P l.toArray Q D B l.length (Array.replicate l.length false) T R) : awp P (.region id l.toArray true) Q T H :=
  awp_drawnA hm fun Δ V O w0 a w r => (h Δ V O w0 w a w (r.perm hp) (fun _ _ => rfl)).any
theorem awpP_all {id : Nat} {l : List Oper} (hm : P.follows .mixedOrders = true) (D : List Nat) (h : awpP P l.toArray Q D H l.length (Array.replicate l.length false) T []) : awp P (.region id l.toArray true) Q T H := awpP_drawn hm D H [] (by rw [List.append_nil]) h
theorem awpP_cong {T' : List AV} {H' : List Hp} (hT : T = T') (hH : H = H') (h : awpP P ops Q D B fuel listed T' H') : awpP P ops Q D B fuel listed T H := hT ▸ hH ▸ h
def takeOkP (ops : Array Oper) (listed : Array Bool) (i : Nat) (D : List Nat) : Bool := takeOk ops listed i && D.all fun j => match ops[j]? with | some o => o.after.any fun e => Region.binds .any e && e.on == i | none => false
theorem takeOkP_D {i : Nat} (h : takeOkP ops listed i D = true) : ∀ j o, D.contains j = true → ops[j]? = some o → ∃ e ∈ o.after, Region.binds .any e = true ∧ e.on = i := fun j o hj ho => by
  unfold takeOkP at h
  rw [Bool.and_eq_true, List.all_eq_true] at h
  have := h.2 j (by simpa using hj)
  rw [ho] at this
  obtain ⟨e, he, hb⟩ := Array.any_eq_true'.1 this
  rw [Bool.and_eq_true, beq_iff_eq] at hb
  exact ⟨e, he, hb⟩
theorem awpP_yield (i : Nat) {o : Oper} {l : List Oper} (hi : nthO l i = some o) (hg : o.guard = none) (hc : takeOkP l.toArray listed i D = true) (hpan : ∀ c T H, ¬ Q (.panic c) T H) (av : AV)
    (h : ∀ V wr a w, OK V (B ++ H) (ev T) o a w → SameB wr B w → ∃ v, (∀ w', SameB wr B w' → (execOp a.eval o).run P w' = .ok (.value v) w') ∧ Den (FB V (B ++ H)) w av v) (hK : awpP P l.toArray Q D B fuel (listed.setIfInBounds i true) (putT T o.dst av) H) : awpP P l.toArray Q D B (fuel + 1) listed T H := by
  have hi : l.toArray[i]? = some o := by rw [List.getElem?_toArray, ← nthO_eq]; exact hi
  intro Δ V O w0 wr a w r hS
  obtain ⟨v, hv, hd⟩ := h V wr a w (r.oks o) hS
  have hD := takeOkP_D hc
  unfold takeOkP takeOk at hc
  simp only [Bool.and_eq_true] at hc
  exact wpAnyP.first hi hc.1.1.1 (fun c a w ⟨T, H, _, hq⟩ => absurd hq (hpan c T H)) hD (Region.free_spec hi hc.1.1.2) (by simpa using hc.1.2) (.inl ⟨by simp [Region.wanted, hg], hv⟩) hS (hK Δ V O w0 wr _ w (r.put _ hd) hS)
theorem awpP_take (i : Nat) {o : Oper} {l : List Oper} (hi : nthO l i = some o) (hg : o.guard = none) (hc : takeOkP l.toArray listed i D = true) (hpan : ∀ c T H, ¬ Q (.panic c) T H) (av : AV) (h : WInd P o (ev T) (B ++ H) av) (hK : awpP P l.toArray Q D B fuel (listed.setIfInBounds i true) (putT T o.dst av) H) : awpP P l.toArray Q D B (fuel + 1) listed T H :=
  awpP_yield i hi hg hc hpan av (fun V wr a w ok _ => by obtain ⟨v, hv, hd⟩ := h V a w ok; exact ⟨v, fun w' _ => hv w', hd⟩) hK
theorem run_loadVar_vals (t : TypeId) (b : Bool) (n : Nat) (h : aggT P t = some (b, n)) (w : World) (F : Nat → Prop) (g off : Nat) (cells : List AV) (vals : List Value) (hd : DenL F w cells vals) (hn : n ≤ cells.length) (hn0 : b = false → 0 < cells.length) :
    ∃ v, (∀ w', (∀ j u, vals[j]? = some u → w'.cell? ⟨g, off + j, none⟩ = some u) → (loadVar t ⟨g, off, none⟩).run P w' = .ok v w') ∧ Den F w (ldA b n cells) v := by
  have hadd : ∀ j, (⟨g, off, none⟩ : Addr).add j = ⟨g, off + j, none⟩ := fun j => by unfold Addr.add; split <;> simp_all
  cases b with
  | true =>
    refine ⟨.agg (vals.take n).toArray, fun w' hc => ?_, ?_⟩
    · obtain ⟨h1, h2⟩ := run_isAgg t true n h w'
      have hl : (loadCells ⟨g, off, none⟩ (vals.take n).length).run P w' = .ok (vals.take n).toArray w' := run_loadCells_list (P := P) w' _ _ fun j v hj => by
        rw [hadd]
        rw [List.getElem?_take] at hj
        split at hj
        · exact hc j v hj
        · cases hj
      have hlen : (vals.take n).length = n := by rw [List.length_take, hd.len]; omega
      rw [hlen] at hl
      simp [loadVar, h1, h2, hl]
    · simp only [ldA, if_true]; exact Den.mkA (hd.take n)
  | false =>
    have h0 := hn0 rfl
    obtain ⟨u, hu, hdu⟩ := hd.get 0 cells[0] (by simp [h0])
    refine ⟨u, fun w' hc => ?_, ?_⟩
    · obtain ⟨h1, h2⟩ := run_isAgg t false n h w'
      have := hc 0 u hu
      rw [Nat.add_zero] at this
      simp [loadVar, h1, run_load, this]
    · simp only [ldA, Bool.false_eq_true, if_false]
      rwa [List.getD_eq_getElem?_getD, List.getElem?_eq_getElem h0]
theorem awpP_load (i : Nat) {o : Oper} {l : List Oper} (hi : nthO l i = some o) (hg : o.guard = none) (hc : takeOkP l.toArray listed i D = true) (hpan : ∀ c T H, ¬ Q (.panic c) T H) (p : Nat) (t : TypeId) (x : Operand) (b off : Nat) (cells : List AV) (agg : Bool) (n : Nat)
    (ho : o.op = .load t x) (hx : ev T x = .x (.pointer (some ⟨b, off, none⟩))) (hb : B[p]? = some (.box b cells)) (ht : aggT P t = some (agg, n)) (hn : off + n ≤ cells.length) (hn0 : off < cells.length)
    (hK : awpP P l.toArray Q D B fuel (listed.setIfInBounds i true) (putT T o.dst (ldA agg n (cells.drop off))) H) : awpP P l.toArray Q D B (fuel + 1) listed T H :=
  awpP_yield i hi hg hc hpan _ (fun V wr a w ok hS => by
    obtain ⟨vals, hd, hl, hcl⟩ := ok.hok.ok (.box b cells) (List.mem_append_left _ (List.mem_of_getElem? hb))
    obtain ⟨v, hr, hdv⟩ := run_loadVar_vals (P := P) t agg n ht w _ b off (cells.drop off) (vals.drop off) (hd.drop off) (by simp; omega) (fun _ => by simp; omega)
    refine ⟨v, fun w' hS' => ?_, hdv⟩
    have hbk : blks B b := ⟨_, List.mem_of_getElem? hb, rfl⟩
    have hsame : w'.heap[b]? = w.heap[b]? := (hS' b hbk).trans (hS b hbk).symm
    have := hr w' fun j u hj => by
      rw [World.cell?_of_block (a := ⟨b, off + j, none⟩) hsame]; exact (hcl (off + j) u (by rwa [List.getElem?_drop] at hj)).1
    simp [execOp, ho, ok.evx (x := x) (by simp [ho, Op.operands]) hx, Instr.loadAt, Instr.sureAddr, this]) hK
theorem wpOp_of_stpP {j : Nat} (hi : ops[j]? = some o) (hg : o.guard = none) (h : Stp P o T H (awpP P ops Q D B fuel (listed.setIfInBounds j true))) (Δ : List Deferred) (V O : Nat → Prop) (w0 wr : World) (r : Rel Δ V O w0 (B ++ H) T a w) (hS : SameB wr B w) :
    wpOp P ops (lift Δ V O w0 Q) j (fun a' w' => (D.contains j = false → SameB wr B w → SameB wr B w') ∧ wpAnyP P .any ops (lift Δ V O w0 Q) D (SameB wr B) fuel (listed.setIfInBounds j true) a' w') a w := by
  unfold wpOp
  simp only [hi]
  rw [if_pos (by simp [Region.wanted, hg])]
  refine .inl (h _ _ _ _ a w _ _ r.aside fun T' H' a' w' hk hr => ?_)
  obtain ⟨r', hs⟩ := r.rejoin hr
  have hS' : SameB wr B w' := fun k hk => (hs k hk).trans (hS k hk)
  exact ⟨fun _ _ => hS', hk Δ V O w0 wr a' w' r' hS'⟩
theorem awpP_1 (i : Nat) {o : Oper} {l : List Oper} (hr : Region.ready .any l.toArray listed = [i]) (hi : nthO l i = some o) (hg : o.guard = none) (h : Stp P o T H (awpP P l.toArray Q D B fuel (listed.setIfInBounds i true))) : awpP P l.toArray Q D B (fuel + 1) listed T H := fun Δ V O w0 wr a w r hS =>
  ⟨fun h0 => (by rw [hr] at h0; cases h0), fun j hj => by
    rw [hr, List.mem_singleton] at hj; subst hj
    exact wpOp_of_stpP (by rw [List.getElem?_toArray, ← nthO_eq]; exact hi) hg h Δ V O w0 wr r hS⟩
theorem awpP_2 (i j : Nat) {o q : Oper} {l : List Oper} (hr : Region.ready .any l.toArray listed = [i, j]) (hi : nthO l i = some o) (hg : o.guard = none) (hj : nthO l j = some q) (hgj : q.guard = none) (h : Stp P o T H (awpP P l.toArray Q D B fuel (listed.setIfInBounds i true))) (h2 : Stp P q T H (awpP P l.toArray Q D B fuel (listed.setIfInBounds j true))) : awpP P l.toArray Q D B (fuel + 1) listed T H := fun Δ V O w0 wr a w r hS =>
  ⟨fun h0 => (by rw [hr] at h0; cases h0), fun k hk => by
    rw [hr] at hk
    rcases List.mem_cons.1 hk with rfl | hk
    · exact wpOp_of_stpP (by rw [List.getElem?_toArray, ← nthO_eq]; exact hi) hg h Δ V O w0 wr r hS
    · rw [List.mem_singleton] at hk; subst hk
      exact wpOp_of_stpP (by rw [List.getElem?_toArray, ← nthO_eq]; exact hj) hgj h2 Δ V O w0 wr r hS⟩
theorem awpP_rest {l : List Oper} (hr : ((List.range l.toArray.size).all fun j => listed.getD j true || D.contains j) = true) (h : awpA P l.toArray Q fuel listed T (B ++ H)) : awpP P l.toArray Q D B fuel listed T H := fun Δ V O w0 wr a w r _ =>
  wpAnyP.rest (fun j hj h0 => by
    rw [List.all_eq_true] at hr
    have := hr j (List.mem_range.2 hj)
    rwa [h0, Bool.false_or] at this) (h Δ V O w0 a w r)
end
end Go.Proofs.YtkhhlmonhapmaaaGreatDoor
/- A walk over symbolic memory: a field of a struct's value. No program in sight. -/
namespace Go.Proofs.YtkhhlmonhapmaaaGreatDoor
open Go.RowKit
set_option linter.unusedSimpArgs false
set_option linter.unusedVariables false
def fvT (P : Program) (s : TypeId) (f : Nat) : Option (Nat × Bool × Nat) := do
  match P.underlying s with
  | some (.struct fs) =>
    let f ← fs[f]?
    let r ← aggT P f.type
    some (f.offset, r.1, r.2)
  | _ => none
class HFv (P : Program) (s : TypeId) (f : Nat) (off : outParam Nat) (agg : outParam Bool) (n : outParam Nat) : Prop where out : fvT P s f = some (off, agg, n)
section
variable {P : Program} {H : List Hp} {o : Oper}
theorem run_field (s : TypeId) (f off : Nat) (agg : Bool) (n : Nat) (h : fvT P s f = some (off, agg, n)) (w : World) (F : Nat → Prop) (cells : List AV) (vals : List Value) (hd : DenL F w cells vals) (hn : off + n ≤ cells.length) (hn0 : off < cells.length) :
    ∃ v, (Instr.field s (.agg vals.toArray) f).run P w = .ok v w ∧ Den F w (ldA agg n (cells.drop off)) v := by
  unfold fvT at h
  split at h
  · rename_i fs hu
    cases hf : fs[f]? with
    | none => simp [hf] at h
    | some fd =>
      cases hi : aggT P fd.type with
      | none => simp [hf, hi] at h
      | some i =>
        obtain ⟨b, m⟩ := i
        simp [hf, hi] at h
        obtain ⟨rfl, rfl, rfl⟩ := h
        obtain ⟨h1, h2⟩ := run_isAgg fd.type b m hi w
        have hl := hd.len
        cases b with
        | true =>
          refine ⟨.agg (((vals.drop fd.offset).take m)).toArray, ?_, ?_⟩
          · simp [Instr.field, run_underlying hu, hf, asAgg, part, h1, h2]
          · simp only [ldA, if_true]; exact Den.mkA ((hd.drop fd.offset).take m)
        | false =>
          obtain ⟨u, hu', hdu⟩ := hd.get fd.offset cells[fd.offset] (by simp [hn0])
          refine ⟨u, ?_, ?_⟩
          · simp [Instr.field, run_underlying hu, hf, asAgg, part, h1, hu']
          · simp only [ldA, Bool.false_eq_true, if_false]
            rw [List.getD_eq_getElem?_getD, List.getElem?_drop]
            simpa [List.getElem?_eq_getElem hn0] using hdu
  · cases h
theorem Evl_fv_g {ρ : Operand → AV} (s : TypeId) (x : Operand) (f off : Nat) (agg : Bool) (n : Nat) (cells : List AV) (ho : o.op = .field s x f) (hx : ∀ F w v, Den F w (ρ x) v → ∃ vals : List Value, v = .agg vals.toArray ∧ DenL F w cells vals) (ht : fvT P s f = some (off, agg, n)) (hn : off + n ≤ cells.length) (hn0 : off < cells.length) :
    Evl P o ρ H (ldA agg n (cells.drop off)) := by
  intro V a w Kc Q r hKc
  obtain ⟨vals, hv, hd⟩ := hx _ _ _ (r.ops x (by simp [ho, Op.operands]))
  obtain ⟨v, hr, hdv⟩ := run_field (P := P) s f off agg n ht w _ cells vals hd hn hn0
  unfold Oper.wp execOp
  simp only [ho, hv, Sem.run_bind, Sem.run_pure, Result.andThen_ok, hr]
  exact hKc _ _ (Below.refl _ _) hdv
theorem Evl_fvx {ρ : Operand → AV} (s : TypeId) (x : Operand) (f off : Nat) (agg : Bool) (n : Nat) (l : List Value) (ho : o.op = .field s x f) (hx : ρ x = .x (.agg ⟨l⟩)) (ht : fvT P s f = some (off, agg, n)) (hn : off + n ≤ l.length) (hn0 : off < l.length) :
    Evl P o ρ H (ldA agg n ((l.drop off).map AV.x)) := by
  rw [List.map_drop]
  exact Evl_fv_g s x f off agg n (l.map AV.x) ho (fun F w v h => by rw [hx, Den] at h; exact ⟨l, h, DenL.exact⟩) ht (by simpa using hn) (by simpa using hn0)
end
end Go.Proofs.YtkhhlmonhapmaaaGreatDoor
/- A walk over symbolic memory: a struct's value built out of many one-cell fields. No program in sight. -/
namespace Go.Proofs.YtkhhlmonhapmaaaGreatDoor
open Go.RowKit
set_option linter.unusedSimpArgs false
set_option linter.unusedVariables false
section
variable {P : Program} {H : List Hp} {o : Oper}
theorem one_cells' {av : AV} (h : av.one = true) : av.cells = [av] := by
  cases av with
  | x v =>
    simp only [AV.one] at h
    cases v <;> first | rfl | (simp [Value.oneCell'] at h)
  | sq => rfl
  | at_ => rfl
  | ifc => rfl
  | _ => simp [AV.one] at h
theorem spl_one (cells : List AV) (k : Nat) (v : AV) (h : k < cells.length) : spl cells k [v] = cells.set k v := by
  unfold spl
  rw [List.set_eq_take_append_cons_drop, if_pos h]; simp
theorem bldA_one (n : Nat) (place : Nat → Option (Nat × Nat)) (hp : ∀ i, i < n → place i = some (i, 1)) : ∀ (l : List (Nat × AV)) (cells : List AV), cells.length = n → (l.all fun p => p.2.one && decide (p.1 < n)) = true → bldA place cells l = some (l.foldl (fun c p => c.set p.1 p.2) cells)
  | [], cells, _, _ => rfl
  | (i, v) :: l, cells, hn, h => by
    simp only [List.all_cons, Bool.and_eq_true, decide_eq_true_eq] at h
    obtain ⟨⟨h1, h2⟩, h3⟩ := h
    have hc := one_cells' h1
    rw [bldA, hp i h2]
    simp only [hc, List.length_cons, List.length_nil]
    rw [if_neg (by omega), spl_one cells i v (by omega), bldA_one n place hp l _ (by simpa using hn) h3]
    rfl
def plain1 (places : List (Nat × Nat)) : Bool := places == (List.range places.length).map fun i => (i, 1)
theorem Evl_build1 {ρ : Operand → AV} (t : TypeId) (parts : Array (Nat × Operand)) (places : List (Nat × Nat)) (z : List Value) (ho : o.op = .build t parts) (hpl : plT P t = some (places, z)) (h1 : plain1 places = true) (hz : places.length = z.length)
    (hone : ((parts.toList.map fun p => (p.1, ρ p.2)).all fun p => p.2.one && decide (p.1 < z.length)) = true) : Evl P o ρ H (mkA ((parts.toList.map fun p => (p.1, ρ p.2)).foldl (fun c p => c.set p.1 p.2) (z.map .x))) := by
  refine Evl_build t parts places z _ ho hpl ?_ (bldA_one z.length _ (fun i hi => ?_) _ _ (by simp) hone)
  · rw [List.all_eq_true] at hone ⊢
    intro p hp
    have := hone (p.1, ρ p.2) (List.mem_map.2 ⟨p, hp, rfl⟩)
    rw [Bool.and_eq_true] at this
    rw [one_cells' this.1]; simp [this.1]
  · have h1 := eq_of_beq h1
    rw [h1, List.getElem?_toArray, List.getElem?_map, List.getElem?_range (by omega)]
    rfl
end
end Go.Proofs.YtkhhlmonhapmaaaGreatDoor
/- A walk over symbolic memory: a region that draws its order, in which the operations that turn memory wait one for the other: one order stands for all. No program in sight. -/
namespace Go.Proofs.YtkhhlmonhapmaaaGreatDoor
open Go.RowKit
set_option linter.unusedSimpArgs false
set_option linter.unusedVariables false
section
variable {P : Program} {Δ : List Deferred} {V O : Nat → Prop} {w0 w w' : World} {B H H' D : List Hp} {T T' : List AV} {a a' : Act} {o : Oper} {Q : Post}
end
/-! ### One order for all -/
def reachB (l : List Oper) : Nat → Nat → Nat → Bool
  | 0, _, _ => false
  | n + 1, x, y => match l[x]? with
    | some o => o.after.toList.any fun e => e.on == y || reachB l n e.on y
    | none => false
structure MixOk (l : List Oper) (pi L D : List Nat) (n0 : Option Nat) : Prop where
  reg : RegOk l
  cover : ∀ i, i < l.length → i ∈ pi ∨ i ∈ D ∨ n0 = some i
  inpi : ∀ i ∈ pi, i < l.length ∧ i ∉ D ∧ n0 ≠ some i
  nodup : pi.Nodup
  dlt : ∀ d ∈ D, d < l.length ∧ n0 ≠ some d
  dall : ∀ d ∈ D, ∀ i, i < l.length → i ∈ D ∨ reachB l l.length d i = true
  alloc : ∀ i, n0 = some i → ∃ o, l[i]? = some o ∧ (∀ e, e ∉ o.after) ∧ o.guard = none
  ops : ∀ k i, pi[k]? = some i → ∃ o, l[i]? = some o ∧ o.guard = none ∧ (∀ e ∈ o.after, e.on ∈ pi.take k) ∧ ∀ q ∈ pi.take k, q ∈ L → reachB l l.length i q = true
section
variable {P : Program} {B : List Hp} {l : List Oper} {L : List Nat} {fin : List AV → List Hp → Prop} {T : List AV} {H : List Hp}
end
end Go.Proofs.YtkhhlmonhapmaaaGreatDoor
/- A walk over symbolic memory: the one order stands for all (the proof). No program in sight. -/
namespace Go.Proofs.YtkhhlmonhapmaaaGreatDoor
open Go.RowKit
set_option linter.unusedSimpArgs false
set_option linter.unusedVariables false
section
variable {P : Program} {B : List Hp} {l : List Oper} {L D pi : List Nat} {n0 : Option Nat} {z : List AV} {T0 : List AV} {Q : Post} {fin : List AV → List Hp → Prop}
structure DI (P : Program) (B : List Hp) (l : List Oper) (L pi : List Nat) (T0 : List AV) (pd rest : List Nat) (es : Nat → AV) (T : List AV) : Prop where
  split : pi = pd ++ rest
  eq : T = lisT l es T0 (fun j => pd.contains j) l.length
  quiet : ∀ (k i : Nat) (o : Oper), pd[k]? = some i → i ∉ L → l[i]? = some o → ∀ H1, Evl P o (ev (lisT l es T0 (fun j => (pd.take k).contains j) l.length)) (B ++ H1) (es i)
end
end Go.Proofs.YtkhhlmonhapmaaaGreatDoor
/- A walk over symbolic memory: a region that draws its order, in which the loud operations wait one for the other. No program in sight. -/
namespace Go.Proofs.YtkhhlmonhapmaaaGreatDoor
open Go.RowKit
set_option linter.unusedSimpArgs false
set_option linter.unusedVariables false
section
variable {P : Program} {B : List Hp} {l : List Oper} {L D pi : List Nat} {n0 : Option Nat} {z : List AV} {T0 : List AV} {Q : Post}
end
end Go.Proofs.YtkhhlmonhapmaaaGreatDoor
