/- More of the base: appends behind which the world stays a name. No program in sight. -/
import Derived.Test.YtjgafhnppplmoaaMore
namespace Go.Proofs.Ytjgafhnppplmoaa
open Go.RowKit
set_option linter.unusedSimpArgs false
set_option linter.unusedVariables false
section
variable {P : Program}
/-- Where 'append' lays its row: where it was, or in a block of its own. -/
theorem append_at (w : World) (lo' : Nat) (t ty e : TypeId) (hE : ElemAt P t e (.int .u8 0) 1 1) (v : Value) (l : List UInt8) (hown : Ob lo' e w v l)
    (lo : Nat) (u : Value) (m : List UInt8) (hsl : Bs lo w u m) (hf : l.length + m.length ≤ 10000000) (hlo : lo' ≤ w.heap.size) :
    ∃ ad cap w', (Builtin.append_ #[t, t] ty #[v, u]).run P w = .ok (.slice ad (l.length + m.length) cap) w' ∧ Ob lo' e w' (.slice ad (l.length + m.length) cap) (l ++ m) ∧ w.grownBy w' v.ownBlock ∧ ∀ x, ad = some x → v.ownBlock = some x.block ∨ x.block = w.heap.size := by
  obtain ⟨i, hi, hz, hsize, hby⟩ := info_parts hE.info
  obtain ⟨ad, cap, rfl, g1, g2, g3, _, g4⟩ := hsl
  have hF := fits (l.length + m.length) 1 hf (by decide)
  cases ad with
  | none =>
    have hc := g3 rfl
    subst hc
    have : m = [] := List.eq_nil_of_length_eq_zero (by omega)
    subst this
    have hrun := run_append_owned_none (P := P) (w := w) lo' t ty e i 1 hE.under hi v l.length (u8s l) hown
    obtain ⟨a1, c1, rfl, _⟩ := hown.bs.shape
    refine ⟨a1, c1, w, hrun, by rw [List.append_nil]; exact hown, World.grownBy.refl _ _, fun x hx => .inl (by rw [hx]; rfl)⟩
  | some a =>
    have hnews : ∀ j u, (u8s m)[j]? = some u → w.cell? (a.add j) = some u := fun j u hj => by
      obtain ⟨y, hy, hu⟩ := g4 j u hj
      cases hy; exact hu
    have hl : (u8s m).length = m.length * 1 := by rw [u8s_len, Nat.mul_one]
    obtain ⟨v', w', hrun, h1, h2, h3⟩ := run_append_own (P := P) (w := w) lo' t ty e i (.int .u8 0) 1 1 hE.under hi hz hsize hby hE.zs hE.pos v l.length (u8s l) hown a m.length cap (u8s m) hl hnews (u8s_one m) hF.2 hF.1 hlo
    have h1' : Ob lo' e w' v' (l ++ m) := by unfold Ob; rw [List.length_append, u8s_app]; exact h1
    obtain ⟨ad', cap', rfl, _⟩ := h1'.bs.shape
    rw [List.length_append] at hrun h1' h3
    refine ⟨ad', cap', w', hrun, h1', h2, fun x hx => ?_⟩
    subst hx
    rcases hown.2 with ⟨rfl, _⟩ | ⟨g, cap0, cur, rfl, hbg, hg, hnc, hcm, hcs, htake⟩
    · by_cases hm : m.length = 0
      · have := h3.2 ⟨rfl, hm⟩; cases this
      · have hl0 : l.length = 0 := by have := hown.bs.shape; obtain ⟨_, _, e, _⟩ := this; simp only [Value.slice.injEq] at e; omega
        have hr := run_append_nil (P := P) (w := w) t ty e i (.int .u8 0) hE.under hi hz a m.length cap (u8s m) (by rw [hl, hsize]) hnews (by omega) (by omega) (by rw [hby]; omega)
        rw [hr] at hrun
        simp only [Result.ok.injEq, Value.slice.injEq, Option.some.injEq] at hrun
        exact .inr (by rw [← hrun.1.1])
    · by_cases hroom : l.length + m.length ≤ cap0
      · have hr := run_append_room (P := P) (w := w) t ty e i hE.under hi g l.length cap0 cur hg a m.length cap (u8s m) (by rw [hl, hsize]) hnews (u8s_one m) hroom (by rw [hsize, hl, hcs]; omega)
        rw [hr] at hrun
        simp only [Result.ok.injEq, Value.slice.injEq, Option.some.injEq] at hrun
        exact .inl (by rw [← hrun.1.1]; rfl)
      · have hC := World.ownsRow.cells hown (g := g) rfl
        have hr := run_append_grow (P := P) (w := w) t ty e i (.int .u8 0) hE.under hi hz ⟨g, 0, none⟩ l.length cap0 (u8s l) (by rw [u8s_len, hsize, Nat.mul_one]) hC a m.length cap (u8s m) (by rw [hl, hsize]) hnews (by omega) (by omega) (growslice_fits (by omega) (by rw [hby]; omega))
        rw [hr] at hrun
        simp only [Result.ok.injEq, Value.slice.injEq, Option.some.injEq] at hrun
        exact .inr (by rw [← hrun.1.1])
end
section
variable {P : Program} {ops : Array Oper} {rest : List Oper} {o : Oper} {a : Act} {Q : Exit → Act → World → Prop}
/-- 'append(s, x...)' where the world behind stays a name: of it one knows that nothing below lo' has turned. -/
theorem wp_append_any {K : Act → World → Prop} (w : World) (lo' : Nat) (s x : Operand) (t : TypeId) (ho : o.op = .call { callee := .builtin .append, args := #[s, x], argTypes := #[t, t] })
    (e : TypeId) (hE : ElemAt P t e (.int .u8 0) 1 1) (v : Value) (l : List UInt8) (hs : a.eval s = v) (hown : Ob lo' e w v l)
    (lo : Nat) (u : Value) (m : List UInt8) (hx : a.eval x = u) (hsl : Bs lo w u m) (r : List UInt8) (n : Nat) (hr : l ++ m = r) (hn : r.length = n) (hf : n ≤ 10000000) (hlo : lo' ≤ w.heap.size)
    (h : ∀ ad cap w', Ob lo' e w' (.slice ad n cap) r → Below lo' w w' → (∀ k, k < w.heap.size → v.ownBlock ≠ some k → w'.heap[k]? = w.heap[k]?) → (∀ x, ad = some x → v.ownBlock = some x.block ∨ x.block = w.heap.size) → K (a.put o.dst (.slice ad n cap)) w') : o.wp P a w K Q := by
  subst hr hn
  obtain ⟨ad, cap, w', hr, h2, h3, h4⟩ := append_at (P := P) w lo' t o.type e hE v l hown lo u m hsl (by simpa using hf) hlo
  unfold Oper.wp execOp
  simp only [ho, resolve, invoke, builtin, Sem.run_bind, Sem.run_pure, Result.andThen_ok, List.map_toArray, List.map_cons, List.map_nil, hs, hx, hr]
  have hb : Below lo' w w' := (Below.refl _ _).grown h3 hlo fun k hk => (hown.lt k hk).1
  rw [← List.length_append]
  rw [← List.length_append] at h2
  exact h ad cap w' h2 hb (fun k hk hne => h3.block k hk fun e => hne e.symm) h4
theorem wpList_append_any (w : World) (lo' : Nat) (hgd : o.guard = none) (s x : Operand) (t : TypeId) (ho : o.op = .call { callee := .builtin .append, args := #[s, x], argTypes := #[t, t] })
    (e : TypeId) (hE : ElemAt P t e (.int .u8 0) 1 1) (v : Value) (l : List UInt8) (hs : a.eval s = v) (hown : Ob lo' e w v l)
    (lo : Nat) (u : Value) (m : List UInt8) (hx : a.eval x = u) (hsl : Bs lo w u m) (r : List UInt8) (n : Nat) (hr : l ++ m = r) (hn : r.length = n) (hf : n ≤ 10000000) (hlo : lo' ≤ w.heap.size)
    (h : ∀ ad cap w', Ob lo' e w' (.slice ad n cap) r → Below lo' w w' → (∀ k, k < w.heap.size → v.ownBlock ≠ some k → w'.heap[k]? = w.heap[k]?) → (∀ x, ad = some x → v.ownBlock = some x.block ∨ x.block = w.heap.size) → wpList P ops Q rest (a.put o.dst (.slice ad n cap)) w') : wpList P ops Q (o :: rest) a w :=
  wpList_plain hgd fun _ hK => wp_append_any w lo' s x t ho e hE v l hs hown lo u m hx hsl r n hr hn hf hlo fun ad cap w' a b c d => hK _ _ (h ad cap w' a b c d)
theorem step_append_any {K : Act → World → Prop} {E : Prop} (w : World) (lo' : Nat) (hgd : o.guard = none) (s x : Operand) (t : TypeId) (ho : o.op = .call { callee := .builtin .append, args := #[s, x], argTypes := #[t, t] })
    (e : TypeId) (hE : ElemAt P t e (.int .u8 0) 1 1) (v : Value) (l : List UInt8) (hs : a.eval s = v) (hown : Ob lo' e w v l)
    (lo : Nat) (u : Value) (m : List UInt8) (hx : a.eval x = u) (hsl : Bs lo w u m) (r : List UInt8) (n : Nat) (hr : l ++ m = r) (hn : r.length = n) (hf : n ≤ 10000000) (hlo : lo' ≤ w.heap.size)
    (h : ∀ ad cap w', Ob lo' e w' (.slice ad n cap) r → Below lo' w w' → (∀ k, k < w.heap.size → v.ownBlock ≠ some k → w'.heap[k]? = w.heap[k]?) → (∀ x, ad = some x → v.ownBlock = some x.block ∨ x.block = w.heap.size) → K (a.put o.dst (.slice ad n cap)) w') :
    if Region.wanted o (yielded ops a.tmps) = true then Oper.wp P o a w K Q else E := by
  have hw : Region.wanted o (yielded ops a.tmps) = true := by simp [Region.wanted, hgd]
  rw [if_pos hw]
  exact wp_append_any w lo' s x t ho e hE v l hs hown lo u m hx hsl r n hr hn hf hlo h
end
/-- What a row shows hangs on its own block alone. -/
theorem Bs.blk {lo : Nat} {w w' : World} {ad : Option Addr} {m cap : Nat} {l : List UInt8} (h : Bs lo w (.slice ad m cap) l) (hk : l ≠ [] → ∀ x, ad = some x → w'.heap[x.block]? = w.heap[x.block]?) : Bs lo w' (.slice ad m cap) l := by
  obtain ⟨ad', cap', e, h1, h2, h3, h5, h4⟩ := h
  refine ⟨ad', cap', e, h1, h2, h3, h5, fun j u hj => ?_⟩
  obtain ⟨x, hx, hu⟩ := h4 j u hj
  refine ⟨x, hx, ?_⟩
  cases e
  rw [World.cell?_of_block (w := w) (by rw [Addr.add_block]; exact hk (by intro e; subst e; simp [u8s] at hj) x hx)]; exact hu
theorem Bs.lt {lo : Nat} {w : World} {ad : Option Addr} {m cap : Nat} {l : List UInt8} (h : Bs lo w (.slice ad m cap) l) (hl : l ≠ []) : ∀ x, ad = some x → lo ≤ x.block ∧ x.block < w.heap.size := by
  obtain ⟨ad', cap', e, h1, h2, h3, h5, h4⟩ := h
  intro x hx
  cases e
  cases l with
  | nil => exact absurd rfl hl
  | cons c l =>
    obtain ⟨y, hy, hu⟩ := h4 0 _ rfl
    rw [hx] at hy; cases hy
    have := World.block_lt_of_cell? w _ hu
    rw [Addr.add_block] at this
    exact ⟨h5 x hx, this⟩
theorem Ob.blk {lo : Nat} {e : TypeId} {w w' : World} {ad : Option Addr} {m cap : Nat} {l : List UInt8} (h : Ob lo e w (.slice ad m cap) l) (hk : ∀ x, ad = some x → w'.heap[x.block]? = w.heap[x.block]?) : Ob lo e w' (.slice ad m cap) l := by
  obtain ⟨hl, hn | ⟨g, c, cur, he, hbg, hg, r⟩⟩ := h
  · exact ⟨hl, .inl hn⟩
  · refine ⟨hl, .inr ⟨g, c, cur, he, hbg, ?_, r⟩⟩
    cases he
    exact (hk _ rfl).trans hg
theorem Ob.lt {lo : Nat} {e : TypeId} {w : World} {ad : Option Addr} {m cap : Nat} {l : List UInt8} (h : Ob lo e w (.slice ad m cap) l) : ∀ x, ad = some x → x.block < w.heap.size := fun x hx => (World.ownsRow.lt h x.block (by rw [hx]; rfl)).2
section
variable {P : Program} {ops : Array Oper} {rest : List Oper} {o : Oper} {a : Act} {Q : Exit → Act → World → Prop}
/-- 'append(s, x...)' where s has no room left and x is not empty: the row is new. -/
theorem append_fresh (w : World) (t ty e : TypeId) (hE : ElemAt P t e (.int .u8 0) 1 1) (lo1 : Nat) (b : Addr) (l : List UInt8) (hv : Bs lo1 w (.slice (some b) l.length l.length) l)
    (lo : Nat) (u : Value) (m : List UInt8) (hsl : Bs lo w u m) (hm : 0 < m.length) (hf : l.length + m.length ≤ 10000000) :
    ∃ cap w', (Builtin.append_ #[t, t] ty #[.slice (some b) l.length l.length, u]).run P w = .ok (.slice (some ⟨w.heap.size, 0, none⟩) (l.length + m.length) cap) w' ∧ Ob w.heap.size e w' (.slice (some ⟨w.heap.size, 0, none⟩) (l.length + m.length) cap) (l ++ m) ∧ Ext w w' := by
  obtain ⟨i, hi, hz, hsize, hby⟩ := info_parts hE.info
  have hF := fits (l.length + m.length) 1 hf (by decide)
  obtain ⟨ad1, cap1, e1, _, _, _, _, g1⟩ := hv
  cases e1
  obtain ⟨ad, cap, rfl, _, _, g3, _, g4⟩ := hsl
  cases ad with
  | none => have := g3 rfl; omega
  | some a =>
    have hr := run_append_grow (P := P) (w := w) t ty e i (.int .u8 0) hE.under hi hz b l.length l.length (u8s l) (by rw [u8s_len, hsize, Nat.mul_one]) (fun j v hj => by obtain ⟨y, hy, hu⟩ := g1 j v hj; cases hy; exact hu) a m.length cap (u8s m) (by rw [u8s_len, hsize, Nat.mul_one]) (fun j v hj => by obtain ⟨y, hy, hu⟩ := g4 j v hj; cases hy; exact hu) (by omega) (by omega) (growslice_fits (by omega) (by rw [hby]; omega))
    have hge := grownCap_ge w (l.length + m.length) l.length e
    refine ⟨_, _, hr, ?_, ((Below.refl _ _).drew).alloc (by simp) _⟩
    unfold Ob
    rw [List.length_append]
    refine ⟨by rw [u8s_len, List.length_append, Nat.mul_one], .inr ⟨w.heap.size, _, _, rfl, Nat.le_refl _, heap_alloc_new w.drew _, hge, grownCap_le_maxLen w _ _ e hF.2, ?_, ?_⟩⟩
    · have hz1 : (Value.cells (.int .u8 0)).size = 1 := rfl
      simp only [Array.size_append, List.size_toArray, size_zeroCells, hz1, u8s_len, Nat.mul_one]
      omega
    · simp only [Array.toList_append, List.append_assoc]
      rw [← List.append_assoc, ← u8s_app, show (l.length + m.length) * 1 = (u8s (l ++ m)).length from by rw [u8s_len, List.length_append, Nat.mul_one]]
      exact List.take_left
/-- The same in a plain region. -/
theorem wpList_append_fresh (w : World) (hgd : o.guard = none) (s x : Operand) (t : TypeId) (ho : o.op = .call { callee := .builtin .append, args := #[s, x], argTypes := #[t, t] })
    (e : TypeId) (hE : ElemAt P t e (.int .u8 0) 1 1) (lo1 : Nat) (b : Addr) (k : Nat) (l : List UInt8) (hk : k = l.length) (hs : a.eval s = .slice (some b) k k) (hv : Bs lo1 w (.slice (some b) k k) l)
    (lo : Nat) (u : Value) (m : List UInt8) (hx : a.eval x = u) (hsl : Bs lo w u m) (hm : 0 < m.length) (hf : l.length + m.length ≤ 10000000)
    (h : ∀ cap w', Ob w.heap.size e w' (.slice (some ⟨w.heap.size, 0, none⟩) (l.length + m.length) cap) (l ++ m) → Ext w w' → wpList P ops Q rest (a.put o.dst (.slice (some ⟨w.heap.size, 0, none⟩) (l.length + m.length) cap)) w') : wpList P ops Q (o :: rest) a w := by
  subst hk
  refine wpList_plain hgd fun _ hK => ?_
  obtain ⟨cap, w', hr, h1, h2⟩ := append_fresh (P := P) w t o.type e hE lo1 b l hv lo u m hsl hm hf
  unfold Oper.wp execOp
  simp only [ho, resolve, invoke, builtin, Sem.run_bind, Sem.run_pure, Result.andThen_ok, List.map_toArray, List.map_cons, List.map_nil, hs, hx, hr]
  exact hK _ _ (h cap w' h1 h2)
end
end Go.Proofs.Ytjgafhnppplmoaa
