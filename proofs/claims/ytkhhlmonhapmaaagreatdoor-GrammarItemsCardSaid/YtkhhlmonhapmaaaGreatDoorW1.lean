import Derived.Test.YtkhhlmonhapmaaaGreatDoorW0
/- The package variables that the code reads, and what lies there. No program in sight. -/
namespace Go.Proofs.YtkhhlmonhapmaaaGreatDoor
open Go.RowKit
set_option linter.unusedSimpArgs false
set_option linter.unusedVariables false
def gN : Nat := 1
def Gw (w : World) : Prop := w.cell? ⟨0, 0, none⟩ = some (.iface 158 (.agg #[.pointer (some ⟨9, 82, none⟩)]))
theorem Gw.keep {w w' : World} (h : Gw w) (hb : ∀ k, k < gN → w'.heap[k]? = w.heap[k]?) : Gw w' := by
  unfold Gw at *
  rw [World.cell?_of_block (a := ⟨0, 0, none⟩) (hb 0 (by decide))]; exact h
theorem Gw.le {w : World} (h : Gw w) : gN ≤ w.heap.size := World.block_lt_of_cell? w _ h
def GL (O : Nat → Prop) (w : World) : Prop := (∀ k, k < gN → ¬ O k) ∧ Gw w
theorem GL.mono {O O' : Nat → Prop} {w : World} (h : GL O w) (ho : ∀ k, O' k → O k) : GL O' w := ⟨fun k hk hn => h.1 k hk (ho k hn), h.2⟩
theorem GL.none {w : World} (h : Gw w) : GL (fun _ => False) w := ⟨fun _ _ h => h, h⟩
end Go.Proofs.YtkhhlmonhapmaaaGreatDoor
/- A walk over symbolic memory: what is known of each slot (AV), of each block that the call owns (Hp), and that the rest stays. No program in sight. -/
namespace Go.Proofs.YtkhhlmonhapmaaaGreatDoor
open Go.RowKit
set_option linter.unusedSimpArgs false
set_option linter.unusedVariables false

inductive AV where
  | x (v : Value)
  | top
  | sq (n : Nat) (cells : List AV)
  | at_ (cells : List AV)
  | agg (cells : List AV)
  | tup (l : List AV)
  | ifc (t : TypeId) (v : AV)
  | g (p : Bool) (v : AV)
  deriving Inhabited
def Mem (F : Nat → Prop) (w : World) (ad : Option Addr) (vals : List Value) : Prop :=
  vals = [] ∨ ∃ b o, ad = some ⟨b, o, none⟩ ∧ ¬ F b ∧ ∀ j u, vals[j]? = some u → w.cell? ⟨b, o + j, none⟩ = some u ∧ u.oneCell' = true
mutual
def Den (F : Nat → Prop) (w : World) : AV → Value → Prop
  | .x u, v => v = u
  | .top, _ => True
  | .sq n cells, v => ∃ ad cap vals, v = .slice ad n cap ∧ n ≤ cap ∧ cap ≤ maxLen ∧ (ad = none → cap = 0) ∧ Mem F w ad vals ∧ DenL F w cells vals
  | .at_ cells, v => ∃ b o vals, v = .pointer (some ⟨b, o, none⟩) ∧ Mem F w (some ⟨b, o, none⟩) vals ∧ DenL F w cells vals
  | .agg cells, v => ∃ vals : List Value, v = .agg vals.toArray ∧ DenL F w cells vals
  | .tup l, v => ∃ vals : List Value, v = .tuple vals.toArray ∧ DenL F w l vals
  | .ifc t av, v => ∃ u, v = .iface t u ∧ Den F w av u
  | .g p av, v => (p = true → Den F w av v) ∧ (p = false → v = undef)
def DenL (F : Nat → Prop) (w : World) : List AV → List Value → Prop
  | [], vs => vs = []
  | c :: cs, vs => ∃ u us, vs = u :: us ∧ Den F w c u ∧ DenL F w cs us
end
section
variable {F F' : Nat → Prop} {w w' : World}
theorem DenL.len {l : List AV} : ∀ {vs : List Value}, DenL F w l vs → vs.length = l.length := by
  induction l with
  | nil => intro vs h; rw [DenL] at h; subst h; rfl
  | cons c cs ih => intro vs h; rw [DenL] at h; obtain ⟨u, us, rfl, _, h2⟩ := h; simp [ih h2]
theorem DenL.get {l : List AV} : ∀ {vs : List Value}, DenL F w l vs → ∀ (j : Nat) (av : AV), l[j]? = some av → ∃ u, vs[j]? = some u ∧ Den F w av u := by
  induction l with
  | nil => intro vs h j av hj; simp at hj
  | cons c cs ih =>
    intro vs h j av hj
    rw [DenL] at h; obtain ⟨u, us, rfl, h1, h2⟩ := h
    cases j with
    | zero => simp at hj; subst hj; exact ⟨u, rfl, h1⟩
    | succ j => exact ih h2 j av (by simpa using hj)
theorem DenL.of {l : List AV} : ∀ {vs : List Value}, vs.length = l.length → (∀ (j : Nat) (av : AV) (u : Value), l[j]? = some av → vs[j]? = some u → Den F w av u) → DenL F w l vs := by
  induction l with
  | nil => intro vs h _; rw [DenL]; exact List.eq_nil_of_length_eq_zero h
  | cons c cs ih =>
    intro vs h hj
    cases vs with
    | nil => simp at h
    | cons u us => rw [DenL]; exact ⟨u, us, rfl, hj 0 c u rfl rfl, ih (by simpa using h) fun j av v h1 h2 => hj (j + 1) av v (by simpa using h1) (by simpa using h2)⟩
theorem DenL.get' {l : List AV} {vs : List Value} (h : DenL F w l vs) (j : Nat) (av : AV) (u : Value) (h1 : l[j]? = some av) (h2 : vs[j]? = some u) : Den F w av u := by
  obtain ⟨u', e, hd⟩ := h.get j av h1
  rw [h2] at e; cases e; exact hd
theorem DenL.app {l m : List AV} {vs us : List Value} (h : DenL F w l vs) (k : DenL F w m us) : DenL F w (l ++ m) (vs ++ us) := by
  refine DenL.of (by simp [h.len, k.len]) fun j av u h1 h2 => ?_
  by_cases hj : j < l.length
  · rw [List.getElem?_append_left hj] at h1
    rw [List.getElem?_append_left (by rw [h.len]; exact hj)] at h2
    exact h.get' j av u h1 h2
  · rw [List.getElem?_append_right (by omega)] at h1
    rw [List.getElem?_append_right (by rw [h.len]; omega), h.len] at h2
    exact k.get' _ av u h1 h2
theorem DenL.set {l : List AV} {vs : List Value} (h : DenL F w l vs) (d : Nat) {av : AV} {v : Value} (hd : Den F w av v) : DenL F w (l.set d av) (vs.set d v) := by
  refine DenL.of (by simp [h.len]) fun j a u h1 h2 => ?_
  rw [List.getElem?_set] at h1 h2
  split at h1
  · rename_i e; subst e
    have hl : d < l.length := by split at h1 <;> simp_all
    simp [hl] at h1; subst h1
    simp [h.len, hl] at h2; subst h2; exact hd
  · rename_i e; simp [e] at h2; exact h.get' j a u h1 h2
theorem DenL.drop {l : List AV} {vs : List Value} (h : DenL F w l vs) (k : Nat) : DenL F w (l.drop k) (vs.drop k) := by
  refine DenL.of (by simp [h.len]) fun j a u h1 h2 => ?_
  rw [List.getElem?_drop] at h1 h2; exact h.get' _ a u h1 h2
theorem DenL.take {l : List AV} {vs : List Value} (h : DenL F w l vs) (k : Nat) : DenL F w (l.take k) (vs.take k) := by
  refine DenL.of (by simp [h.len]) fun j a u h1 h2 => ?_
  rw [List.getElem?_take] at h1 h2
  split at h1
  · rename_i e; rw [if_pos e] at h2; exact h.get' _ a u h1 h2
  · cases h1
theorem DenL.exact {l : List Value} : DenL F w (l.map AV.x) l := DenL.of (by simp) fun j av u h1 h2 => by
  rw [List.getElem?_map, h2] at h1; cases h1; rw [Den]
theorem DenL.exact' {l vs : List Value} (h : DenL F w (l.map AV.x) vs) : vs = l := by
  apply List.ext_getElem?
  intro j
  by_cases hj : j < l.length
  · obtain ⟨u, hu, hd⟩ := h.get j (.x l[j]) (by simp [hj])
    rw [Den] at hd; subst hd; rw [hu]; simp [hj]
  · rw [List.getElem?_eq_none (by rw [h.len]; simpa using hj), List.getElem?_eq_none (by omega)]
theorem Mem.conv {ad : Option Addr} {vals : List Value} (h : Mem F w ad vals) (hF : ∀ k, F' k → F k ∨ w.heap.size ≤ k) (hw : ∀ k, k < w.heap.size → ¬ F k → w'.heap[k]? = w.heap[k]?) : Mem F' w' ad vals := by
  rcases h with h | ⟨b, o, rfl, hb, hc⟩
  · exact .inl h
  · cases vals with
    | nil => exact .inl rfl
    | cons v vs =>
      have hlt : b < w.heap.size := World.block_lt_of_cell? w _ (hc 0 v rfl).1
      refine .inr ⟨b, o, rfl, fun hk => ?_, fun j u hj => ⟨?_, (hc j u hj).2⟩⟩
      · rcases hF b hk with h | h
        · exact hb h
        · omega
      · rw [World.cell?_of_block (a := ⟨b, o + j, none⟩) (hw b hlt hb)]; exact (hc j u hj).1
mutual
theorem Den.conv (hF : ∀ k, F' k → F k ∨ w.heap.size ≤ k) (hw : ∀ k, k < w.heap.size → ¬ F k → w'.heap[k]? = w.heap[k]?) : (av : AV) → ∀ v, Den F w av v → Den F' w' av v
  | .x u, v, h => by rw [Den] at h ⊢; exact h
  | .top, v, h => by rw [Den]; trivial
  | .sq n cells, v, h => by
    rw [Den] at h ⊢
    obtain ⟨ad, cap, vals, h1, h2, h3, h4, h5, h6⟩ := h
    exact ⟨ad, cap, vals, h1, h2, h3, h4, h5.conv hF hw, DenL.conv hF hw cells vals h6⟩
  | .at_ cells, v, h => by
    rw [Den] at h ⊢
    obtain ⟨b, o, vals, h1, h5, h6⟩ := h
    exact ⟨b, o, vals, h1, h5.conv hF hw, DenL.conv hF hw cells vals h6⟩
  | .agg cells, v, h => by
    rw [Den] at h ⊢
    obtain ⟨vals, h1, h6⟩ := h
    exact ⟨vals, h1, DenL.conv hF hw cells vals h6⟩
  | .tup cells, v, h => by
    rw [Den] at h ⊢
    obtain ⟨vals, h1, h6⟩ := h
    exact ⟨vals, h1, DenL.conv hF hw cells vals h6⟩
  | .ifc t av, v, h => by
    rw [Den] at h ⊢
    obtain ⟨u, h1, h6⟩ := h
    exact ⟨u, h1, Den.conv hF hw av u h6⟩
  | .g p av, v, h => by
    rw [Den] at h ⊢
    exact ⟨fun hp => Den.conv hF hw av v (h.1 hp), h.2⟩
theorem DenL.conv (hF : ∀ k, F' k → F k ∨ w.heap.size ≤ k) (hw : ∀ k, k < w.heap.size → ¬ F k → w'.heap[k]? = w.heap[k]?) : (l : List AV) → ∀ vs, DenL F w l vs → DenL F' w' l vs
  | [], vs, h => by rw [DenL] at h ⊢; exact h
  | c :: cs, vs, h => by
    rw [DenL] at h ⊢
    obtain ⟨u, us, e, h1, h2⟩ := h
    exact ⟨u, us, e, Den.conv hF hw c u h1, DenL.conv hF hw cs us h2⟩
end
theorem Den.weak (hF : ∀ k, F' k → F k) {av : AV} {v : Value} (h : Den F w av v) : Den F' w av v := Den.conv (fun k hk => .inl (hF k hk)) (fun _ _ _ => rfl) av v h
theorem DenL.weak (hF : ∀ k, F' k → F k) {l : List AV} {vs : List Value} (h : DenL F w l vs) : DenL F' w l vs := DenL.conv (fun k hk => .inl (hF k hk)) (fun _ _ _ => rfl) l vs h
end

theorem Gw.ext {w w' : World} (h : Gw w) (hE : Ext w w') : Gw w' := h.keep fun k hk => hE.block k (Nat.lt_of_lt_of_le hk h.le)

/-! ### The blocks that the call owns -/

inductive Hp where
  | box (b : Nat) (cells : List AV)
  | row (ad : Option Addr) (n cap : Nat) (e : TypeId) (size : Nat) (cells : List AV)
def Hp.blk : Hp → Option Nat
  | .box b _ => some b
  | .row ad .. => ad.map (·.block)
def HpOk (F : Nat → Prop) (w : World) : Hp → Prop
  | .box b cells => ∃ vals, DenL F w cells vals ∧ b < w.heap.size ∧ ∀ j u, vals[j]? = some u → w.cell? ⟨b, j, none⟩ = some u ∧ u.oneCell' = true ∧ w.frozen? ⟨b, j, none⟩ = false
  | .row ad n cap e size cells => ∃ vals, DenL F w cells vals ∧ w.ownsRow 0 e size (.slice ad n cap) n vals ∧ ∀ u ∈ vals, u.oneCell' = true
def FB (V : Nat → Prop) (H : List Hp) : Nat → Prop := fun k => V k ∨ ∃ h ∈ H, h.blk = some k
def Apart (a b : Hp) : Prop := ∀ k, a.blk = some k → b.blk ≠ some k
structure HOk (V : Nat → Prop) (w : World) (H : List Hp) : Prop where
  ok : ∀ h ∈ H, HpOk (FB V H) w h
  apart : H.Pairwise Apart
  lt : ∀ h ∈ H, ∀ k, h.blk = some k → k < w.heap.size ∧ ¬ V k
structure Fr (O : Nat → Prop) (w0 w : World) : Prop where
  os : w.os = w0.os
  tape : w.tape = w0.tape
  output : w.output = w0.output
  size : w0.heap.size ≤ w.heap.size
  block : ∀ k, k < w0.heap.size → ¬ O k → w.heap[k]? = w0.heap[k]?
theorem Fr.refl (O : Nat → Prop) (w : World) : Fr O w w := ⟨rfl, rfl, rfl, Nat.le_refl _, fun _ _ _ => rfl⟩
theorem Fr.trans {O : Nat → Prop} {O' : Nat → Prop} {a b c : World} (h : Fr O a b) (k : Fr O' b c) (ho : ∀ i, i < a.heap.size → O' i → O i) : Fr O a c :=
  ⟨k.os.trans h.os, k.tape.trans h.tape, k.output.trans h.output, Nat.le_trans h.size k.size, fun i hi hn => (k.block i (Nat.lt_of_lt_of_le hi h.size) (fun h' => hn (ho i hi h'))).trans (h.block i hi hn)⟩
theorem Fr.ext {a b : World} (h : Fr (fun _ => False) a b) : Ext a b := ⟨h.os, h.tape, h.output, h.size, fun k hk => h.block k hk (fun x => x)⟩
theorem Ext.fr {a b : World} (h : Ext a b) (O : Nat → Prop) : Fr O a b := ⟨h.os, h.tape, h.output, h.size, fun k hk _ => h.block k hk⟩
def blks (H : List Hp) : Nat → Prop := fun k => ∃ h ∈ H, h.blk = some k
structure Rel (Δ : List Deferred) (V O : Nat → Prop) (w0 : World) (H : List Hp) (T : List AV) (a : Act) (w : World) : Prop where
  tmps : DenL (FB V H) w T a.tmps.toList
  hok : HOk V w H
  fr : Fr O w0 w
  own : ∀ h ∈ H, ∀ k, h.blk = some k → O k ∨ w0.heap.size ≤ k
  defers : a.defers = Δ
  vlt : ∀ k, V k → k < w0.heap.size
  gl : GL O w0
section
variable {Δ : List Deferred} {V O : Nat → Prop} {w0 w w' : World} {H H' : List Hp} {T : List AV} {a : Act}
theorem FB.perm (h : H.Perm H') : ∀ k, FB V H' k → FB V H k := fun k hk => hk.imp id fun ⟨x, hx, e⟩ => ⟨x, h.mem_iff.2 hx, e⟩
theorem HpOk.weak {F F' : Nat → Prop} (hF : ∀ k, F' k → F k) : ∀ {h : Hp}, HpOk F w h → HpOk F' w h
  | .box .., ⟨vals, h1, h2⟩ => ⟨vals, h1.weak hF, h2⟩
  | .row .., ⟨vals, h1, h2⟩ => ⟨vals, h1.weak hF, h2⟩
theorem HpOk.conv {F F' : Nat → Prop} (hF : ∀ k, F' k → F k ∨ w.heap.size ≤ k) (hw : ∀ k, k < w.heap.size → ¬ F k → w'.heap[k]? = w.heap[k]?) (hs : w.heap.size ≤ w'.heap.size) :
    ∀ {h : Hp}, HpOk F w h → (∀ k, h.blk = some k → w'.heap[k]? = w.heap[k]?) → HpOk F' w' h
  | .box b cells, ⟨vals, h1, hl, h2⟩, hb => ⟨vals, DenL.conv hF hw _ _ h1, by omega, fun j u hj => by
      have := hb b rfl
      rw [World.cell?_of_block (a := ⟨b, j, none⟩) this, World.frozen?_of_block (a := ⟨b, j, none⟩) this]; exact h2 j u hj⟩
  | .row ad n cap e size cells, ⟨vals, h1, h2, h3⟩, hb => by
      refine ⟨vals, DenL.conv hF hw _ _ h1, ?_, h3⟩
      obtain ⟨hl, hn | ⟨g, cap', cur, e', hbg, hg, r⟩⟩ := h2
      · exact ⟨hl, .inl hn⟩
      · refine ⟨hl, .inr ⟨g, cap', cur, e', hbg, ?_, r⟩⟩
        have : ad = some ⟨g, 0, none⟩ := by injection e'
        rw [hb g (by rw [this]; rfl)]; exact hg
theorem Rel.perm (h : Rel Δ V O w0 H T a w) (hp : H.Perm H') : Rel Δ V O w0 H' T a w where
  tmps := h.tmps.weak (FB.perm hp)
  hok := ⟨fun x hx => (h.hok.ok x (hp.mem_iff.2 hx)).weak (FB.perm hp), hp.pairwise h.hok.apart (fun {a b} hab k hb ha => hab k ha hb), fun x hx => h.hok.lt x (hp.mem_iff.2 hx)⟩
  fr := h.fr
  own := fun x hx => h.own x (hp.mem_iff.2 hx)
  defers := h.defers
  vlt := h.vlt
  gl := h.gl
theorem Rel.gw (h : Rel Δ V O w0 H T a w) : Gw w := h.gl.2.keep fun k hk => h.fr.block k (Nat.lt_of_lt_of_le hk h.gl.2.le) (h.gl.1 k hk)
theorem Rel.gb (h : Rel Δ V O w0 H T a w) : GL (blks H) w := ⟨fun k hk ⟨y, hy, e⟩ => by
  rcases h.own y hy k e with h1 | h1
  · exact h.gl.1 k hk h1
  · have := h.gl.2.le; omega, h.gw⟩
theorem Rel.quiet (h : Rel Δ V O w0 H T a w) (hb : Ext w w') : Rel Δ V O w0 H T a w' where
  tmps := DenL.conv (fun k hk => .inl hk) (fun k hk _ => hb.block k hk) _ _ h.tmps
  hok := ⟨fun x hx => (h.hok.ok x hx).conv (fun k hk => .inl hk) (fun k hk _ => hb.block k hk) hb.size (fun k hk => hb.block k (h.hok.lt x hx k hk).1), h.hok.apart,
    fun x hx k hk => ⟨Nat.lt_of_lt_of_le (h.hok.lt x hx k hk).1 hb.size, (h.hok.lt x hx k hk).2⟩⟩
  fr := h.fr.trans (hb.fr (fun _ => False)) (fun _ _ h => h.elim)
  own := h.own
  defers := h.defers
  vlt := h.vlt
  gl := h.gl
def putT (T : List AV) (d : Option Tmp) (av : AV) : List AV := match d with | some d => T.set d av | none => T
theorem Rel.put (h : Rel Δ V O w0 H T a w) (d : Option Tmp) {av : AV} {v : Value} (hd : Den (FB V H) w av v) : Rel Δ V O w0 H (putT T d av) (a.put d v) w where
  tmps := by
    cases d with
    | none => exact h.tmps
    | some d => simp only [putT, Act.put, Array.toList_setIfInBounds]; exact h.tmps.set d hd
  hok := h.hok
  fr := h.fr
  own := h.own
  defers := by cases d <;> exact h.defers
  vlt := h.vlt
  gl := h.gl
theorem Rel.new (h : Rel Δ V O w0 H T a w) (hb : Ext w w') (x : Hp) (hx : ∀ k, x.blk = some k → w.heap.size ≤ k ∧ k < w'.heap.size) (hok : HpOk (FB V (x :: H)) w' x) : Rel Δ V O w0 (x :: H) T a w' where
  tmps := DenL.conv (fun k hk => by
    rcases hk with hk | ⟨y, hy, e⟩
    · exact .inl (.inl hk)
    · rcases List.mem_cons.1 hy with rfl | hy
      · exact .inr (hx k e).1
      · exact .inl (.inr ⟨y, hy, e⟩)) (fun k hk _ => hb.block k hk) _ _ h.tmps
  hok := by
    refine ⟨fun y hy => ?_, List.pairwise_cons.2 ⟨fun y hy k hk e => ?_, h.hok.apart⟩, fun y hy k hk => ?_⟩
    · rcases List.mem_cons.1 hy with rfl | hy
      · exact hok
      · exact (h.hok.ok y hy).conv (fun k hk => by
          rcases hk with hk | ⟨z, hz, e⟩
          · exact .inl (.inl hk)
          · rcases List.mem_cons.1 hz with rfl | hz
            · exact .inr (hx k e).1
            · exact .inl (.inr ⟨z, hz, e⟩)) (fun k hk _ => hb.block k hk) hb.size (fun k hk => hb.block k (h.hok.lt y hy k hk).1)
    · have h1 := (hx k hk).1
      have h2 := (h.hok.lt y hy k e).1
      omega
    · rcases List.mem_cons.1 hy with rfl | hy
      · exact ⟨(hx k hk).2, fun hv => by have h1 := h.vlt k hv; have h2 := h.fr.size; have := (hx k hk).1; omega⟩
      · exact ⟨Nat.lt_of_lt_of_le (h.hok.lt y hy k hk).1 hb.size, (h.hok.lt y hy k hk).2⟩
  fr := h.fr.trans (hb.fr (fun _ => False)) (fun _ _ h => h.elim)
  own := fun y hy k hk => by
    rcases List.mem_cons.1 hy with rfl | hy
    · exact .inr (Nat.le_trans h.fr.size (hx k hk).1)
    · exact h.own y hy k hk
  defers := h.defers
  vlt := h.vlt
  gl := h.gl
theorem Rel.turn {x y : Hp} (h : Rel Δ V O w0 (x :: H) T a w) (hos : w'.os = w.os) (htp : w'.tape = w.tape) (hout : w'.output = w.output) (hs : w.heap.size ≤ w'.heap.size)
    (hw : ∀ k, k < w.heap.size → x.blk ≠ some k → w'.heap[k]? = w.heap[k]?) (hxy : ∀ k, y.blk = some k → k < w'.heap.size ∧ (x.blk = some k ∨ w.heap.size ≤ k))
    (hok : HpOk (FB V (y :: H)) w' y) (hdrop : ∀ k, x.blk = some k → ¬ (y.blk = some k) → True) : Rel Δ V O w0 (y :: H) T a w' := by
  have hF : ∀ k, FB V (y :: H) k → FB V (x :: H) k ∨ w.heap.size ≤ k := fun k hk => by
    rcases hk with hk | ⟨z, hz, e⟩
    · exact .inl (.inl hk)
    · rcases List.mem_cons.1 hz with rfl | hz
      · rcases (hxy k e).2 with h1 | h1
        · exact .inl (.inr ⟨x, by simp, h1⟩)
        · exact .inr h1
      · exact .inl (.inr ⟨z, by simp [hz], e⟩)
  have hw' : ∀ k, k < w.heap.size → ¬ FB V (x :: H) k → w'.heap[k]? = w.heap[k]? := fun k hk hn => hw k hk fun e => hn (.inr ⟨x, by simp, e⟩)
  have hap := List.pairwise_cons.1 h.hok.apart
  refine ⟨DenL.conv hF hw' _ _ h.tmps, ⟨fun z hz => ?_, List.pairwise_cons.2 ⟨fun z hz k hk e => ?_, hap.2⟩, fun z hz k hk => ?_⟩, ?_, fun z hz k hk => ?_, h.defers, h.vlt, h.gl⟩
  · rcases List.mem_cons.1 hz with rfl | hz
    · exact hok
    · exact (h.hok.ok z (by simp [hz])).conv hF hw' hs fun k hk => hw k (h.hok.lt z (by simp [hz]) k hk).1 fun e => hap.1 z hz k e hk
  · rcases (hxy k hk).2 with h1 | h1
    · exact hap.1 z hz k h1 e
    · have := (h.hok.lt z (by simp [hz]) k e).1; omega
  · rcases List.mem_cons.1 hz with rfl | hz
    · refine ⟨(hxy k hk).1, fun hv => ?_⟩
      rcases (hxy k hk).2 with h1 | h1
      · exact (h.hok.lt x (by simp) k h1).2 hv
      · have h2 := h.vlt k hv; have h3 := h.fr.size; omega
    · exact ⟨Nat.lt_of_lt_of_le (h.hok.lt z (by simp [hz]) k hk).1 hs, (h.hok.lt z (by simp [hz]) k hk).2⟩
  · refine h.fr.trans (O' := fun k => x.blk = some k) ⟨hos, htp, hout, hs, fun k hk hn => hw k hk hn⟩ fun k hk e => ?_
    rcases h.own x (by simp) k e with h1 | h1
    · exact h1
    · omega
  · rcases List.mem_cons.1 hz with rfl | hz
    · rcases (hxy k hk).2 with h1 | h1
      · exact h.own x (by simp) k h1
      · exact .inr (Nat.le_trans h.fr.size h1)
    · exact h.own z (by simp [hz]) k hk
end
end Go.Proofs.YtkhhlmonhapmaaaGreatDoor
