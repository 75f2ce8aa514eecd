import Derived.Test.YtkhhlmonhapmaaaGreatDoorW4
/- A walk over symbolic memory: what is forgotten, calls, and the frame of a function. No program in sight. -/
namespace Go.Proofs.YtkhhlmonhapmaaaGreatDoor
open Go.RowKit
set_option linter.unusedSimpArgs false
set_option linter.unusedVariables false

/-! ### Forgetting -/

mutual
inductive Vw (D : List Hp) : AV → AV → Prop
  | refl (av : AV) : Vw D av av
  | top (av : AV) : Vw D av .top
  | row {ad : Option Addr} {n cap : Nat} {e : TypeId} {size : Nat} {cells cells' : List AV} : .row ad n cap e size cells ∈ D → VwL D cells cells' → Vw D (.x (.slice ad n cap)) (.sq n cells')
  | nil : Vw D (.x (.slice none 0 0)) (.sq 0 [])
  | box {b : Nat} {cells cells' : List AV} : .box b cells ∈ D → VwL D cells cells' → Vw D (.x (.pointer (some ⟨b, 0, none⟩))) (.at_ cells')
  | sq {n : Nat} {l l' : List AV} : VwL D l l' → Vw D (.sq n l) (.sq n l')
  | agg {l l' : List AV} : VwL D l l' → Vw D (.agg l) (.agg l')
  | aggx {l : List Value} {l' : List AV} : VwL D (l.map .x) l' → Vw D (.x (.agg l.toArray)) (.agg l')
  | xagg {l : List Value} : Vw D (.agg (l.map .x)) (.x (.agg l.toArray))
  | tup {l l' : List AV} : VwL D l l' → Vw D (.tup l) (.tup l')
  | tupx {l : List Value} {l' : List AV} : VwL D (l.map .x) l' → Vw D (.x (.tuple l.toArray)) (.tup l')
  | xtup {l : List Value} : Vw D (.tup (l.map .x)) (.x (.tuple l.toArray))
  | ifc {t : TypeId} {v v' : AV} : Vw D v v' → Vw D (.ifc t v) (.ifc t v')
inductive VwL (D : List Hp) : List AV → List AV → Prop
  | nil : VwL D [] []
  | cons {a a' : AV} {l l' : List AV} : Vw D a a' → VwL D l l' → VwL D (a :: l) (a' :: l')
end
theorem VwL.refl (D : List Hp) : ∀ l, VwL D l l
  | [] => .nil
  | a :: l => .cons (.refl a) (VwL.refl D l)
section
variable {F F' : Nat → Prop} {w : World} {D : List Hp}
mutual
theorem Vw.den (hF : ∀ k, F' k → F k) (hD : ∀ h ∈ D, HpOk F w h ∧ ∀ k, h.blk = some k → ¬ F' k) : ∀ {av av' : AV}, Vw D av av' → ∀ v, Den F w av v → Den F' w av' v
  | _, _, .refl av, v, h => h.weak hF
  | _, _, .top av, v, h => by rw [Den]; trivial
  | _, _, .row (ad := ad) (n := n) (cap := cap) hm hl, v, h => by
    have h : v = .slice ad n cap := by have := h; simp only [Den] at this; exact this
    subst h
    obtain ⟨⟨vals, hd, hown, h1⟩, hb⟩ := hD _ hm
    show Den F' w (.sq n _) _
    simp only [Den]
    rcases hown.2 with ⟨e1, rfl⟩ | ⟨g, cap1, cur, e1, hbg, hg, hnc, hcm, hcs, htake⟩
    · cases e1
      exact ⟨none, 0, vals, rfl, Nat.le_refl _, Nat.zero_le _, fun _ => rfl, .inl (List.eq_nil_of_length_eq_zero (by simpa using hown.1)), VwL.den hF hD hl _ hd⟩
    · simp only [Value.slice.injEq] at e1
      obtain ⟨rfl, -, rfl⟩ := e1
      refine ⟨_, _, vals, rfl, hnc, hcm, fun h => (by cases h), .inr ⟨g, 0, rfl, hb g rfl, fun j u hj => ⟨?_, h1 u (List.mem_of_getElem? hj)⟩⟩, VwL.den hF hD hl _ hd⟩
      have := hown.cells (g := g) rfl j u hj
      rwa [add_none] at this
  | _, _, .box (b := b) hm hl, v, h => by
    have h : v = .pointer (some ⟨b, 0, none⟩) := by have := h; simp only [Den] at this; exact this
    subst h
    obtain ⟨⟨vals, hd, hlt, hc⟩, hb⟩ := hD _ hm
    show Den F' w (.at_ _) _
    simp only [Den]
    exact ⟨b, 0, vals, rfl, .inr ⟨b, 0, rfl, hb b rfl, fun j u hj => by have := hc j u hj; rw [Nat.zero_add]; exact ⟨this.1, this.2.1⟩⟩, VwL.den hF hD hl _ hd⟩
  | _, _, .nil, v, h => by
    have h : v = .slice none 0 0 := by have := h; simp only [Den] at this; exact this
    subst h
    show Den F' w (.sq 0 []) _
    simp only [Den]
    exact ⟨none, 0, [], rfl, Nat.le_refl _, Nat.zero_le _, fun _ => rfl, .inl rfl, by rw [DenL]⟩
  | _, _, .sq hl, v, h => by
    rw [Den] at h ⊢
    obtain ⟨ad, cap, vals, h1, h2, h3, h4, h5, h6⟩ := h
    exact ⟨ad, cap, vals, h1, h2, h3, h4, h5.conv (fun k hk => .inl (hF k hk)) (fun _ _ _ => rfl), VwL.den hF hD hl _ h6⟩
  | _, _, .agg hl, v, h => by
    rw [Den] at h ⊢
    obtain ⟨vals, h1, h6⟩ := h
    exact ⟨vals, h1, VwL.den hF hD hl _ h6⟩
  | _, _, .aggx (l := l) hl, v, h => by
    rw [Den] at h; subst h
    rw [Den]
    exact ⟨l, rfl, VwL.den hF hD hl _ DenL.exact⟩
  | _, _, .xagg (l := l), v, h => by
    simp only [Den] at h
    obtain ⟨vals, h1, h6⟩ := h
    rw [h6.exact'] at h1
    simp only [Den]
    exact h1
  | _, _, .tup hl, v, h => by
    rw [Den] at h ⊢
    obtain ⟨vals, h1, h6⟩ := h
    exact ⟨vals, h1, VwL.den hF hD hl _ h6⟩
  | _, _, .tupx (l := l) hl, v, h => by
    rw [Den] at h; subst h
    rw [Den]
    exact ⟨l, rfl, VwL.den hF hD hl _ DenL.exact⟩
  | _, _, .xtup (l := l), v, h => by
    simp only [Den] at h
    obtain ⟨vals, h1, h6⟩ := h
    rw [h6.exact'] at h1
    simp only [Den]
    exact h1
  | _, _, .ifc hv, v, h => by
    rw [Den] at h ⊢
    obtain ⟨u, h1, h2⟩ := h
    exact ⟨u, h1, Vw.den hF hD hv _ h2⟩
theorem VwL.den (hF : ∀ k, F' k → F k) (hD : ∀ h ∈ D, HpOk F w h ∧ ∀ k, h.blk = some k → ¬ F' k) : ∀ {l l' : List AV}, VwL D l l' → ∀ vs, DenL F w l vs → DenL F' w l' vs
  | _, _, .nil, vs, h => by rw [DenL] at h ⊢; exact h
  | _, _, .cons h1 h2, vs, h => by
    rw [DenL] at h ⊢
    obtain ⟨u, us, e, g1, g2⟩ := h
    exact ⟨u, us, e, Vw.den hF hD h1 _ g1, VwL.den hF hD h2 _ g2⟩
end
inductive VwH (D : List Hp) : Hp → Hp → Prop
  | box (b : Nat) {l l' : List AV} : VwL D l l' → VwH D (.box b l) (.box b l')
  | row (ad : Option Addr) (n cap : Nat) (e : TypeId) (size : Nat) {l l' : List AV} : VwL D l l' → VwH D (.row ad n cap e size l) (.row ad n cap e size l')
  | rowbox (g n cap : Nat) (e : TypeId) (l : List AV) : VwH D (.row (some ⟨g, 0, none⟩) n cap e 1 l) (.box g l)
theorem VwH.refl (D : List Hp) : ∀ h, VwH D h h
  | .box b l => .box b (VwL.refl D l)
  | .row .. => .row _ _ _ _ _ (VwL.refl D _)
theorem VwH.blk {D : List Hp} {h h' : Hp} (x : VwH D h h') : h'.blk = h.blk := by cases x <;> rfl
theorem VwH.ok (hF : ∀ k, F' k → F k) (hD : ∀ h ∈ D, HpOk F w h ∧ ∀ k, h.blk = some k → ¬ F' k) {h h' : Hp} (x : VwH D h h') (ho : HpOk F w h) : HpOk F' w h' := by
  cases x with
  | box b hl => obtain ⟨vals, h1, h2⟩ := ho; exact ⟨vals, hl.den hF hD _ h1, h2⟩
  | row ad n cap e size hl => obtain ⟨vals, h1, h2⟩ := ho; exact ⟨vals, hl.den hF hD _ h1, h2⟩
  | rowbox g n cap e l =>
    obtain ⟨vals, h1, hown, hone⟩ := ho
    rcases hown.2 with ⟨e1, _⟩ | ⟨g', cap1, cur, e1, hbg, hg, hnc, hcm, hcs, htake⟩
    · cases e1
    · have e2 := e1
      simp only [Value.slice.injEq, Option.some.injEq, Addr.mk.injEq] at e2
      obtain ⟨⟨rfl, -, -⟩, -, rfl⟩ := e2
      refine ⟨vals, h1.weak hF, (Array.getElem?_eq_some_iff.1 hg).1, fun j u hj => ⟨?_, hone u (List.mem_of_getElem? hj), ?_⟩⟩
      · have := hown.cells (g := g) rfl j u hj
        rwa [add_none, Nat.zero_add] at this
      · simp [World.frozen?, hg]
inductive VwHs (D : List Hp) : List Hp → List Hp → Prop
  | nil : VwHs D [] []
  | cons {a a' : Hp} {l l' : List Hp} : VwH D a a' → VwHs D l l' → VwHs D (a :: l) (a' :: l')
theorem VwHs.refl (D : List Hp) : ∀ l, VwHs D l l
  | [] => .nil
  | a :: l => .cons (.refl D a) (VwHs.refl D l)
theorem VwHs.mem {D H H' : List Hp} (h : VwHs D H H') : ∀ x ∈ H', ∃ y ∈ H, VwH D y x := by
  induction h with
  | nil => intro x hx; cases hx
  | cons h1 _ ih =>
    intro x hx
    rcases List.mem_cons.1 hx with rfl | hx
    · exact ⟨_, by simp, h1⟩
    · obtain ⟨y, hy, e⟩ := ih x hx; exact ⟨y, by simp [hy], e⟩
theorem VwHs.apart {D H H' : List Hp} (h : VwHs D H H') (ha : H.Pairwise Apart) : H'.Pairwise Apart := by
  induction h with
  | nil => exact .nil
  | cons h1 h2 ih =>
    obtain ⟨g1, g2⟩ := List.pairwise_cons.1 ha
    refine List.pairwise_cons.2 ⟨fun x hx k hk e => ?_, ih g2⟩
    obtain ⟨y, hy, hxy⟩ := h2.mem x hx
    exact g1 y hy k (h1.blk ▸ hk) (hxy.blk ▸ e)
end
section
variable {P : Program} {Δ : List Deferred} {V O : Nat → Prop} {w0 w w' : World} {H H' D : List Hp} {T T' : List AV} {a : Act} {o : Oper} {K : List AV → List Hp → Prop}
theorem Rel.forget (r : Rel Δ V O w0 H T a w) (R : List Hp) (hp : H.Perm (D ++ R)) (hH : VwHs D R H') (hT : VwL D T T') : Rel Δ V O w0 H' T' a w := by
  have r' := r.perm hp
  have hap := List.pairwise_append.1 r'.hok.apart
  have hF : ∀ k, FB V H' k → FB V (D ++ R) k := fun k hk => hk.imp id fun ⟨x, hx, e⟩ => by
    obtain ⟨y, hy, hxy⟩ := hH.mem x hx
    exact ⟨y, by simp [hy], hxy.blk ▸ e⟩
  have hD : ∀ h ∈ D, HpOk (FB V (D ++ R)) w h ∧ ∀ k, h.blk = some k → ¬ FB V H' k := fun h hh => ⟨r'.hok.ok h (by simp [hh]), fun k hk hf => by
    rcases hf with hv | ⟨x, hx, e⟩
    · exact (r'.hok.lt h (by simp [hh]) k hk).2 hv
    · obtain ⟨y, hy, hxy⟩ := hH.mem x hx
      exact hap.2.2 h hh y hy k hk (hxy.blk ▸ e)⟩
  refine ⟨hT.den hF hD _ r'.tmps, ⟨fun x hx => ?_, hH.apart hap.2.1, fun x hx k hk => ?_⟩, r'.fr, fun x hx k hk => ?_, r'.defers, r'.vlt, r'.gl⟩
  · obtain ⟨y, hy, hxy⟩ := hH.mem x hx
    exact hxy.ok hF hD (r'.hok.ok y (by simp [hy]))
  · obtain ⟨y, hy, hxy⟩ := hH.mem x hx
    exact r'.hok.lt y (by simp [hy]) k (hxy.blk ▸ hk)
  · obtain ⟨y, hy, hxy⟩ := hH.mem x hx
    exact r'.own y (by simp [hy]) k (hxy.blk ▸ hk)
structure Weak (H : List Hp) (T : List AV) (H' : List Hp) (T' : List AV) : Prop where
  ex : ∃ D R, H.Perm (D ++ R) ∧ VwHs D R H' ∧ VwL D T T'
theorem Weak.mk' (D R : List Hp) (hp : H.Perm (D ++ R)) (hH : VwHs D R H') (hT : VwL D T T') : Weak H T H' T' := ⟨D, R, hp, hH, hT⟩
theorem Rel.weaken (r : Rel Δ V O w0 H T a w) (h : Weak H T H' T') : Rel Δ V O w0 H' T' a w := by
  obtain ⟨D, R, hp, hH, hT⟩ := h.ex
  exact r.forget R hp hH hT
theorem awp_loopS {S : Type} {c : Code} {Q : Post} (Tf : S → List AV) (Hf : S → List Hp) (Inv : S → Prop) (m : S → Nat) (s0 : S) (h0 : Weak H T (Hf s0) (Tf s0)) (hi : Inv s0)
    (round : ∀ s, Inv s → awp P c (thenA (fun T' H' => ∃ s', m s' < m s ∧ Inv s' ∧ Weak H' T' (Hf s') (Tf s')) Q) (Tf s) (Hf s)) : awp P (.loop c) Q T H := by
  intro Δ V O w0 a w r
  have key : ∀ n s a w, m s = n → Inv s → Rel Δ V O w0 (Hf s) (Tf s) a w → ∀ (b : Frame) (k : List Item) (cs : List Frame),
      ∃ e a' w', lift Δ V O w0 Q e a' w' ∧ Arrives P (lone (b.at a (.code c :: .inLoop c :: k)) cs w) b k cs e a' w' := by
    intro n
    induction n using Nat.strongRecOn with
    | _ n ih =>
      intro s a w hn hI hr b k cs
      obtain ⟨e, a₁, w₁, ⟨T1, H1, r1, q1⟩, harr⟩ := round s hI Δ V O w0 a w hr b (.inLoop c :: k) cs
      cases e with
      | normal =>
        obtain ⟨s', hlt, hI₁, hw⟩ := q1
        obtain ⟨e₂, a₂, w₂, hq₂, harr₂⟩ := ih (m s') (hn ▸ hlt) s' a₁ w₁ rfl hI₁ (r1.weaken hw) b k cs
        exact ⟨e₂, a₂, w₂, hq₂, .of_steps (Steps.trans harr (.one step_inLoop)) harr₂⟩
      | exit id => exact ⟨_, a₁, w₁, ⟨T1, H1, r1, q1⟩, .pass (x := .inLoop c) rfl (fun _ _ => .inl (by simp)) harr⟩
      | goto l => exact ⟨_, a₁, w₁, ⟨T1, H1, r1, q1⟩, .pass (x := .inLoop c) rfl (fun _ _ => .inl (by simp)) harr⟩
      | ret => exact ⟨_, a₁, w₁, ⟨T1, H1, r1, q1⟩, .pass (x := .inLoop c) rfl (fun _ _ => .inl (by simp)) harr⟩
      | panic ch => exact ⟨_, a₁, w₁, ⟨T1, H1, r1, q1⟩, .pass (x := .inLoop c) rfl (fun _ _ => .inl (by simp)) harr⟩
      | outgrown => exact ⟨_, a₁, w₁, ⟨T1, H1, r1, q1⟩, .pass (x := .inLoop c) rfl (fun _ _ => .inl (by simp)) harr⟩
  intro b k cs
  obtain ⟨e, a', w', hq, harr⟩ := key _ s0 a w rfl hi (r.weaken h0) b k cs
  exact ⟨e, a', w', hq, .of_steps (.one step_loop) harr⟩

/-! ### Functions -/

def Spec (P : Program) (f : FuncId) (H : List Hp) (args : List AV) (Q : AV → List Hp → Prop) : Prop :=
  ∀ (V : Nat → Prop) (w : World) (vs : List Value), (∀ k, V k → k < w.heap.size) → HOk V w H → DenL (FB V H) w args vs → GL (blks H) w →
    Calls P f vs.toArray w fun e w' => ∃ r H' v, Q r H' ∧ e = .returned v ∧ Den (FB V H') w' r v ∧ HOk V w' H' ∧ Fr (blks H) w w' ∧ ∀ h ∈ H', ∀ k, h.blk = some k → blks H k ∨ w.heap.size ≤ k
theorem Spec.mono {f : FuncId} {args : List AV} {Q Q' : AV → List Hp → Prop} (h : Spec P f H args Q) (hq : ∀ r H', Q r H' → Q' r H') : Spec P f H args Q' := fun V w vs h1 h2 h3 h4 =>
  (h V w vs h1 h2 h3 h4).mono fun e w' ⟨r, H', v, q, rest⟩ => ⟨r, H', v, hq _ _ q, rest⟩
theorem wp_call_of {Kc : Act → World → Prop} {Q : Exit → Act → World → Prop} {c : Operand} {args : Array Operand} {tys : Array TypeId} {f : FuncId} {fn : Func} {fs cs vs : Array Value} (ho : o.op = .call { callee := .value c, args := args, argTypes := tys }) (hc : a.eval c = .func (.func f) fs cs)
    (hf : P.funcs[f]? = some fn) (hn : fn.name ≠ "runtime.NumGoroutine") (hb : fn.body.isSome = true) (hv : fs ++ args.map a.eval ++ cs = vs)
    (h : Calls P f vs w fun e w' => ∃ v, e = .returned v ∧ Kc (a.put o.dst v) w') : o.wp P a w Kc Q := by
  have hrun : (execOp a.eval o).run P w = .ok (.enter f vs) w := by
    cases hbb : fn.body with
    | none => rw [hbb] at hb; cases hb
    | some c => simp [execOp, ho, resolve, hc, Deferred.ofValue, invoke, callFunc, hf, hn, hbb, ← hv]
  unfold Oper.wp
  rw [hrun]
  simp only [Oper.upon]
  refine h.mono ?_
  rintro e w' ⟨v, rfl, hk⟩
  exact hk
theorem denL_map (r : Rel Δ V O w0 H T a w) : ∀ l : List Operand, DenL (FB V H) w (l.map (ev T)) (l.map a.eval)
  | [] => by simp [DenL]
  | x :: l => by simp only [List.map_cons]; rw [DenL]; exact ⟨_, _, rfl, r.ev x, denL_map r l⟩
theorem Stp_call {c : Operand} {args : Array Operand} {tys : Array TypeId} {fs cs : Array Value} (f : FuncId) (fn : Func) (H1 R : List Hp) (avs : List AV) (Q : AV → List Hp → Prop) (ho : o.op = .call { callee := .value c, args := args, argTypes := tys }) (hc : ev T c = .x (.func (.func f) fs cs))
    (hf : P.funcs[f]? = some fn) (hn : fn.name ≠ "runtime.NumGoroutine") (hb : fn.body.isSome = true) (hp : H.Perm (H1 ++ R)) (hargs : VwL [] (fs.toList.map .x ++ args.toList.map (ev T) ++ cs.toList.map .x) avs) (hS : Spec P f H1 avs Q)
    (hK : ∀ r H', Q r H' → K (putT T o.dst r) (H' ++ R)) : Stp P o T H K := by
  intro Δ V O w0 a w Kc Qc r hKc
  have r1 := r.perm hp
  have hap := List.pairwise_append.1 r1.hok.apart
  have hVF : ∀ k, FB (FB V R) H1 k ↔ FB V (H1 ++ R) k := fun k => by
    simp only [FB, List.mem_append]
    constructor
    · rintro ((h | ⟨x, hx, e⟩) | ⟨x, hx, e⟩)
      · exact .inl h
      · exact .inr ⟨x, .inr hx, e⟩
      · exact .inr ⟨x, .inl hx, e⟩
    · rintro (h | ⟨x, hx | hx, e⟩)
      · exact .inl (.inl h)
      · exact .inr ⟨x, hx, e⟩
      · exact .inl (.inr ⟨x, hx, e⟩)
  have hV : ∀ k, FB V R k → k < w.heap.size := fun k hk => by
    rcases hk with hk | ⟨x, hx, e⟩
    · exact Nat.lt_of_lt_of_le (r.vlt k hk) r.fr.size
    · exact (r1.hok.lt x (by simp [hx]) k e).1
  have hH1 : HOk (FB V R) w H1 := ⟨fun x hx => (r1.hok.ok x (by simp [hx])).weak fun k hk => (hVF k).1 hk, hap.1, fun x hx k hk => ⟨(r1.hok.lt x (by simp [hx]) k hk).1, fun hv => by
    rcases hv with hv | ⟨y, hy, e⟩
    · exact (r1.hok.lt x (by simp [hx]) k hk).2 hv
    · exact hap.2.2 x hx y hy k hk e⟩⟩
  have hd : DenL (FB (FB V R) H1) w avs (fs.toList ++ args.toList.map a.eval ++ cs.toList) := hargs.den (fun k hk => (hVF k).1 hk) (fun h hh => by cases hh) _ ((DenL.exact.app (denL_map r1 args.toList)).app DenL.exact)
  refine wp_call_of ho (r.evx hc) hf hn hb (vs := (fs.toList ++ args.toList.map a.eval ++ cs.toList).toArray) (by apply Array.toList_inj.1; simp) ?_
  refine (hS (FB V R) w _ hV hH1 hd (r1.gb.mono fun k ⟨x, hx, e⟩ => ⟨x, by simp [hx], e⟩)).mono ?_
  rintro e w' ⟨res, H', v, hq, rfl, hdv, hok', hfr, hown⟩
  refine ⟨v, rfl, hKc _ _ _ _ (hK res H' hq) ?_⟩
  have hVF' : ∀ k, FB (FB V R) H' k ↔ FB V (H' ++ R) k := fun k => by
    simp only [FB, List.mem_append]
    constructor
    · rintro ((h | ⟨x, hx, e⟩) | ⟨x, hx, e⟩)
      · exact .inl h
      · exact .inr ⟨x, .inr hx, e⟩
      · exact .inr ⟨x, .inl hx, e⟩
    · rintro (h | ⟨x, hx | hx, e⟩)
      · exact .inl (.inl h)
      · exact .inr ⟨x, hx, e⟩
      · exact .inl (.inr ⟨x, hx, e⟩)
  have hF : ∀ k, FB V (H' ++ R) k → FB V (H1 ++ R) k ∨ w.heap.size ≤ k := fun k hk => by
    rcases (hVF' k).2 hk with hk | ⟨x, hx, e⟩
    · exact .inl ((hVF k).1 (.inl hk))
    · rcases hown x hx k e with ⟨y, hy, e'⟩ | h
      · exact .inl ((hVF k).1 (.inr ⟨y, hy, e'⟩))
      · exact .inr h
  have hw : ∀ k, k < w.heap.size → ¬ FB V (H1 ++ R) k → w'.heap[k]? = w.heap[k]? := fun k hk hn => hfr.block k hk fun ⟨y, hy, e⟩ => hn (.inr ⟨y, by simp [hy], e⟩)
  refine Rel.put (av := res) (v := v) ⟨DenL.conv hF hw _ _ r1.tmps, ⟨fun x hx => ?_, List.pairwise_append.2 ⟨hok'.apart, hap.2.1, fun x hx y hy k hk e => ?_⟩, fun x hx k hk => ?_⟩, ?_, fun x hx k hk => ?_, r.defers, r.vlt, r.gl⟩ _ (hdv.weak fun k hk => (hVF' k).2 hk)
  · rcases List.mem_append.1 hx with hx | hx
    · exact (hok'.ok x hx).weak fun k hk => (hVF' k).2 hk
    · exact (r1.hok.ok x (by simp [hx])).conv hF hw hfr.size fun k hk => hfr.block k (r1.hok.lt x (by simp [hx]) k hk).1 fun ⟨y, hy, e⟩ => hap.2.2 y hy x hx k e hk
  · exact (hok'.lt x hx k hk).2 (.inr ⟨y, hy, e⟩)
  · rcases List.mem_append.1 hx with hx | hx
    · exact ⟨(hok'.lt x hx k hk).1, fun hv => (hok'.lt x hx k hk).2 (.inl hv)⟩
    · exact ⟨Nat.lt_of_lt_of_le (r1.hok.lt x (by simp [hx]) k hk).1 hfr.size, (r1.hok.lt x (by simp [hx]) k hk).2⟩
  · refine r.fr.trans hfr fun k hk hb => ?_
    obtain ⟨y, hy, e⟩ := hb
    rcases r1.own y (by simp [hy]) k e with h | h
    · exact h
    · omega
  · rcases List.mem_append.1 hx with hx | hx
    · rcases hown x hx k hk with ⟨y, hy, e⟩ | h
      · exact r1.own y (by simp [hy]) k e
      · exact .inr (Nat.le_trans r.fr.size h)
    · exact r1.own x (by simp [hx]) k hk
end
end Go.Proofs.YtkhhlmonhapmaaaGreatDoor
