import Derived.Test.YtdcjhndcklofoaaW0
import Derived.Lib.ConvBytes
/- More of the base: strings of bytes under index and slice, appends of a literal. No program in sight. -/
namespace Go.Proofs.Ytdcjhndcklofoaa
open Go.RowKit
set_option linter.unusedSimpArgs false
set_option linter.unusedVariables false
@[simp, go_sem] theorem bs_get (l : List UInt8) (i : Nat) (h : i < (bs l).size) : (bs l)[i] = l[i]'(by simpa using h) := by
  simp [bs, ByteArray.getElem_eq_getElem_data]
@[simp, go_sem] theorem bs_from (l : List UInt8) (i : Nat) : (bs l).extract i l.length = bs (l.drop i) := by
  apply ByteArray.ext; apply Array.toList_inj.1; simp [bs, ByteArray.data_extract, List.take_of_length_le]
@[simp, go_sem] theorem bs_to (l : List UInt8) (k : Nat) : (bs l).extract 0 k = bs (l.take k) := by
  apply ByteArray.ext; apply Array.toList_inj.1; simp [bs, ByteArray.data_extract, List.take_of_length_le]
theorem bs_nil : bs [] = ⟨#[]⟩ := rfl
theorem bs_lit (a : Array UInt8) : (⟨a⟩ : ByteArray) = bs a.toList := by simp [bs]
theorem drop_cons {l : List UInt8} {k : Nat} (h : k < l.length) : l.drop k = l[k] :: l.drop (k + 1) := List.drop_eq_getElem_cons h
section
variable {P : Program} {ops : Array Oper} {rest : List Oper} {o : Oper} {a : Act} {Q : Exit → Act → World → Prop}
/-- 'append(s, x1, .., xk)' of bytes: their row has been made just now. -/
theorem wpList_append_lit (W w : World) (lo' : Nat) (hgd : o.guard = none) (s x : Operand) (t : TypeId) (ho : o.op = .call { callee := .builtin .append, args := #[s, x], argTypes := #[t, t] })
    (e : TypeId) (hE : ElemAt P t e (.int .u8 0) 1 1) (v : Value) (l : List UInt8) (hs : a.eval s = v) (hown : Ob lo' e w v l)
    (C : Array Value) (g k : Nat) (m : List UInt8) (hx : a.eval x = .slice (some ⟨g, 0, none⟩) k k) (hg : g = w.heap.size) (hC : C.toList = u8s m) (hk : k = m.length) (r : List UInt8) (n : Nat) (hr : l ++ m = r) (hn : r.length = n) (hf : n ≤ 10000000) (hW : Ext W w) (hlo : W.heap.size = lo')
    (h : ∀ ad cap t' d', Ob lo' e (W.ext t' d') (.slice ad n cap) r → wpList P ops Q rest (a.put o.dst (.slice ad n cap)) (W.ext t' d')) : wpList P ops Q (o :: rest) a (w.alloc (.cells C e)) := by
  subst hg hk
  refine wpList_append_bytes W (w.alloc (.cells C e)) lo' hgd s x t ho e hE v l hs (hown.mono (Ext.al _ _)) 0 _ m hx (Bs.block _ _ _ _ _ _ _ _ m rfl (Nat.zero_le _) hC rfl (Nat.le_refl _) ?_) r n hr hn hf (hW.trans (Below.alloc (Below.refl _ _) hW.size _)) hlo fun ad cap t' d' a _ => h ad cap t' d' a
  have h1 : m.length ≤ r.length := by rw [← hr]; simp
  unfold maxLen; omega
/-- A row that is nil or the call's own, of n elements with the cells xs. -/
def Ow (lo : Nat) (e : TypeId) (size : Nat) (w : World) (v : Value) (n : Nat) (xs : List Value) : Prop := w.ownsRow lo e size v n xs
/-- 'append(s, x1, .., xk)' of whatever elements: their row has been made just now. -/
theorem wpList_append_row (W w : World) (lo' : Nat) (hgd : o.guard = none) (s x : Operand) (t : TypeId) (ho : o.op = .call { callee := .builtin .append, args := #[s, x], argTypes := #[t, t] })
    (e : TypeId) (z : Value) (size bytes : Nat) (hE : ElemAt P t e z size bytes) (v : Value) (n : Nat) (xs : List Value) (hs : a.eval s = v) (hown : Ow lo' e size w v n xs)
    (C : Array Value) (g k : Nat) (ys : List Value) (hx : a.eval x = .slice (some ⟨g, 0, none⟩) k k) (hg : g = w.heap.size) (hC : C.toList = ys) (hk : ys.length = k * size) (h1 : ∀ u ∈ ys, u.oneCell' = true) (hf : n + k ≤ 10000000) (hb : bytes ≤ 100000) (hW : Ext W w) (hlo : W.heap.size = lo')
    (h : ∀ ad cap t' d', Ow lo' e size (W.ext t' d') (.slice ad (n + k) cap) (n + k) (xs ++ ys) → wpList P ops Q rest (a.put o.dst (.slice ad (n + k) cap)) (W.ext t' d')) : wpList P ops Q (o :: rest) a (w.alloc (.cells C e)) := by
  subst hg hlo hC
  have hsl : Sl 0 (w.alloc (.cells C e)) (.slice (some ⟨w.heap.size, 0, none⟩) k k) k C.toList := by
    refine ⟨_, _, rfl, Nat.le_refl _, (by unfold maxLen; omega), (by intro h; cases h), (fun _ _ => Nat.zero_le _), fun j u hj => ⟨_, rfl, ?_⟩⟩
    have hadd : (⟨w.heap.size, 0, none⟩ : Addr).add j = ⟨w.heap.size, j, none⟩ := by unfold Addr.add; split <;> simp_all
    rw [hadd, World.cell?_alloc_mark, ← Array.getElem?_toList, hj]
  refine wpList_append_sl (w.alloc (.cells C e)) hgd s x t ho W.heap.size e z size bytes hE v n xs hs (own_mono hown (Ext.al _ _)) 0 _ k C.toList hx hsl hk h1 (fits _ _ hf hb) (Nat.le_trans hW.size (by simp)) ?_
  intro v' w' h2 _ h3 _
  have hE' : Ext W w' := (hW.trans (Below.alloc (Below.refl _ _) hW.size _)).trans h3
  obtain ⟨t', d', rfl⟩ := Ext.form hE'
  obtain ⟨ad, cap, rfl, _⟩ := (Sl.own h2).shape
  exact h ad cap t' d' h2
end
section
variable {lo : Nat} {e : TypeId} {size n : Nat} {w w' : World} {v : Value} {xs : List Value}
theorem Ow.sl (h : Ow lo e size w v n xs) : Sl lo w v n xs := Sl.own h
theorem Ow.mono (h : Ow lo e size w v n xs) (hb : Ext w w') : Ow lo e size w' v n xs := own_mono h hb
theorem Ow.agree (h : Ow lo e size w v n xs) (hb : Agree lo w.heap.size w w') : Ow lo e size w' v n xs := own_agree h hb
theorem Ow.weak {lo' : Nat} (h : Ow lo e size w v n xs) (hl : lo' ≤ lo) : Ow lo' e size w v n xs := own_weak h hl
theorem Ow.nil (lo : Nat) (e : TypeId) (size : Nat) (w : World) : Ow lo e size w (.slice none 0 0) 0 [] := World.ownsRow_nil _ _ _ _
theorem Ow.shape (h : Ow lo e size w v n xs) : ∃ ad cap, v = .slice ad n cap ∧ n ≤ cap := (Sl.own h).shape
end
/-- What '[]byte(s)' lays. -/
def strObj (w : World) (e : TypeId) (s : ByteArray) : Obj := .cells (Lib.bytesCells w e s) e ((Lib.bytesCells w e s).size, (Lib.bytesCells w e s).size + 1)
theorem bytesWorld_ext (w : World) (e : TypeId) (s : ByteArray) : Lib.bytesWorld w e s = w.ext #[strObj w e s] (w.drawn + 1) := by
  have h1 : (Lib.bytesWorld w e s).heap = w.heap ++ #[strObj w e s] := by
    apply Array.ext_getElem?
    intro j
    by_cases hj : j < w.heap.size
    · rw [Lib.bytesWorld_at_old w e s j hj, Array.getElem?_append_left hj]
    · rw [Array.getElem?_append_right (by omega)]
      by_cases he : j = w.heap.size
      · subst he; rw [Lib.bytesWorld_at_new, Nat.sub_self]; rfl
      · have h1 : (#[strObj w e s] : Array Obj).size = 1 := rfl
        rw [Array.getElem?_eq_none (by rw [Lib.bytesWorld_size]; omega), Array.getElem?_eq_none (by rw [h1]; omega)]
  have h2 : Lib.bytesWorld w e s = { w with heap := (Lib.bytesWorld w e s).heap, drawn := w.drawn + 1 } := rfl
  rw [h2, h1]; rfl
@[go_sem] theorem conv_string_bytes {P : Program} (w : World) (src t e : TypeId) (s : ByteArray) (hs : P.underlying src = some .string) (ht : P.underlying t = some (.slice (P.elem t))) (he : P.elem t = e) (hu : P.underlying e = some (.int .u8)) :
    (convert src t (.string s)).run P w = .ok (.slice (some ⟨w.heap.size, 0, none⟩) s.size (grownCap w s.size 0 e)) (w.ext #[strObj w e s] (w.drawn + 1)) := by
  subst he; rw [Lib.run_convert_string_bytes w src t _ s hs ht hu, bytesWorld_ext]
theorem bs_conv (w : World) (lo g n : Nat) (e : TypeId) (s : ByteArray) (l : List UInt8) (hg : g = w.heap.size) (hn : n = s.size) (hl : l = s.data.toList) (hs : s.size ≤ 1000000) (hlo : lo ≤ w.heap.size) : Bs lo (w.ext #[strObj w e s] (w.drawn + 1)) (.slice (some ⟨g, 0, none⟩) n (grownCap w n 0 e)) l := by
  subst hg hn hl
  have h1 := grownCap_ge w s.size 0 e
  have h2 := grownCap_le_maxLen w s.size 0 e (by unfold maxLen; omega)
  have hl : s.data.toList.length = s.size := Array.length_toList
  refine ⟨_, _, by rw [hl], by rw [hl]; exact h1, h2, (by intro h; cases h), (by intro x hx; cases hx; exact hlo), fun j u hj => ⟨_, rfl, ?_⟩⟩
  have hadd : (⟨w.heap.size, 0, none⟩ : Addr).add j = ⟨w.heap.size, j, none⟩ := by unfold Addr.add; split <;> simp_all
  have hj' := (List.getElem?_eq_some_iff.1 hj).1
  rw [u8s_len, hl] at hj'
  rw [hadd, ← bytesWorld_ext, Lib.bytesWorld_cell w e s j hj']
  rw [u8s, List.getElem?_map, List.getElem?_eq_getElem (by rw [hl]; exact hj')] at hj
  rw [List.getD, List.getElem?_eq_getElem (by rw [hl]; exact hj')]
  exact hj
end Go.Proofs.Ytdcjhndcklofoaa
/- More of the base: appends behind which the world stays a name. No program in sight. -/
namespace Go.Proofs.Ytdcjhndcklofoaa
open Go.RowKit
set_option linter.unusedSimpArgs false
set_option linter.unusedVariables false
section
variable {P : Program}
/-- Where 'append' lays its row: where it was, or in a block of its own. -/
theorem append_at (w : World) (lo' : Nat) (t ty e : TypeId) (hE : ElemAt P t e (.int .u8 0) 1 1) (v : Value) (l : List UInt8) (hown : Ob lo' e w v l)
    (lo : Nat) (u : Value) (m : List UInt8) (hsl : Bs lo w u m) (hf : l.length + m.length ≤ 10000000) (hlo : lo' ≤ w.heap.size) :
    ∃ ad cap w', (Builtin.append_ #[t, t] ty #[v, u]).run P w = .ok (.slice ad (l.length + m.length) cap) w' ∧ Ob lo' e w' (.slice ad (l.length + m.length) cap) (l ++ m) ∧ w.grownBy w' v.ownBlock ∧ ∀ x, ad = some x → v.ownBlock = some x.block ∨ x.block = w.heap.size := by
  obtain ⟨i, hi, hz, hsize, hby⟩ := info_parts hE.info
  obtain ⟨ad, cap, rfl, g1, g2, g3, _, g4⟩ := hsl
  have hF := fits (l.length + m.length) 1 hf (by decide)
  cases ad with
  | none =>
    have hc := g3 rfl
    subst hc
    have : m = [] := List.eq_nil_of_length_eq_zero (by omega)
    subst this
    have hrun := run_append_owned_none (P := P) (w := w) lo' t ty e i 1 hE.under hi v l.length (u8s l) hown
    obtain ⟨a1, c1, rfl, _⟩ := hown.bs.shape
    refine ⟨a1, c1, w, hrun, by rw [List.append_nil]; exact hown, World.grownBy.refl _ _, fun x hx => .inl (by rw [hx]; rfl)⟩
  | some a =>
    have hnews : ∀ j u, (u8s m)[j]? = some u → w.cell? (a.add j) = some u := fun j u hj => by
      obtain ⟨y, hy, hu⟩ := g4 j u hj
      cases hy; exact hu
    have hl : (u8s m).length = m.length * 1 := by rw [u8s_len, Nat.mul_one]
    obtain ⟨v', w', hrun, h1, h2, h3⟩ := run_append_own (P := P) (w := w) lo' t ty e i (.int .u8 0) 1 1 hE.under hi hz hsize hby hE.zs hE.pos v l.length (u8s l) hown a m.length cap (u8s m) hl hnews (u8s_one m) hF.2 hF.1 hlo
    have h1' : Ob lo' e w' v' (l ++ m) := by unfold Ob; rw [List.length_append, u8s_app]; exact h1
    obtain ⟨ad', cap', rfl, _⟩ := h1'.bs.shape
    rw [List.length_append] at hrun h1' h3
    refine ⟨ad', cap', w', hrun, h1', h2, fun x hx => ?_⟩
    subst hx
    rcases hown.2 with ⟨rfl, _⟩ | ⟨g, cap0, cur, rfl, hbg, hg, hnc, hcm, hcs, htake⟩
    · by_cases hm : m.length = 0
      · have := h3.2 ⟨rfl, hm⟩; cases this
      · have hl0 : l.length = 0 := by have := hown.bs.shape; obtain ⟨_, _, e, _⟩ := this; simp only [Value.slice.injEq] at e; omega
        have hr := run_append_nil (P := P) (w := w) t ty e i (.int .u8 0) hE.under hi hz a m.length cap (u8s m) (by rw [hl, hsize]) hnews (by omega) (by omega) (by rw [hby]; omega)
        rw [hr] at hrun
        simp only [Result.ok.injEq, Value.slice.injEq, Option.some.injEq] at hrun
        exact .inr (by rw [← hrun.1.1])
    · by_cases hroom : l.length + m.length ≤ cap0
      · have hr := run_append_room (P := P) (w := w) t ty e i hE.under hi g l.length cap0 cur hg a m.length cap (u8s m) (by rw [hl, hsize]) hnews (u8s_one m) hroom (by rw [hsize, hl, hcs]; omega)
        rw [hr] at hrun
        simp only [Result.ok.injEq, Value.slice.injEq, Option.some.injEq] at hrun
        exact .inl (by rw [← hrun.1.1]; rfl)
      · have hC := World.ownsRow.cells hown (g := g) rfl
        have hr := run_append_grow (P := P) (w := w) t ty e i (.int .u8 0) hE.under hi hz ⟨g, 0, none⟩ l.length cap0 (u8s l) (by rw [u8s_len, hsize, Nat.mul_one]) hC a m.length cap (u8s m) (by rw [hl, hsize]) hnews (by omega) (by omega) (growslice_fits (by omega) (by rw [hby]; omega))
        rw [hr] at hrun
        simp only [Result.ok.injEq, Value.slice.injEq, Option.some.injEq] at hrun
        exact .inr (by rw [← hrun.1.1])
end
section
variable {P : Program} {ops : Array Oper} {rest : List Oper} {o : Oper} {a : Act} {Q : Exit → Act → World → Prop}
/-- 'append(s, x...)' where the world behind stays a name: of it one knows that nothing below lo' has turned. -/
theorem wp_append_any {K : Act → World → Prop} (w : World) (lo' : Nat) (s x : Operand) (t : TypeId) (ho : o.op = .call { callee := .builtin .append, args := #[s, x], argTypes := #[t, t] })
    (e : TypeId) (hE : ElemAt P t e (.int .u8 0) 1 1) (v : Value) (l : List UInt8) (hs : a.eval s = v) (hown : Ob lo' e w v l)
    (lo : Nat) (u : Value) (m : List UInt8) (hx : a.eval x = u) (hsl : Bs lo w u m) (r : List UInt8) (n : Nat) (hr : l ++ m = r) (hn : r.length = n) (hf : n ≤ 10000000) (hlo : lo' ≤ w.heap.size)
    (h : ∀ ad cap w', Ob lo' e w' (.slice ad n cap) r → Below lo' w w' → (∀ k, k < w.heap.size → v.ownBlock ≠ some k → w'.heap[k]? = w.heap[k]?) → (∀ x, ad = some x → v.ownBlock = some x.block ∨ x.block = w.heap.size) → K (a.put o.dst (.slice ad n cap)) w') : o.wp P a w K Q := by
  subst hr hn
  obtain ⟨ad, cap, w', hr, h2, h3, h4⟩ := append_at (P := P) w lo' t o.type e hE v l hown lo u m hsl (by simpa using hf) hlo
  unfold Oper.wp execOp
  simp only [ho, resolve, invoke, builtin, Sem.run_bind, Sem.run_pure, Result.andThen_ok, List.map_toArray, List.map_cons, List.map_nil, hs, hx, hr]
  have hb : Below lo' w w' := (Below.refl _ _).grown h3 hlo fun k hk => (hown.lt k hk).1
  rw [← List.length_append]
  rw [← List.length_append] at h2
  exact h ad cap w' h2 hb (fun k hk hne => h3.block k hk fun e => hne e.symm) h4
theorem wpList_append_any (w : World) (lo' : Nat) (hgd : o.guard = none) (s x : Operand) (t : TypeId) (ho : o.op = .call { callee := .builtin .append, args := #[s, x], argTypes := #[t, t] })
    (e : TypeId) (hE : ElemAt P t e (.int .u8 0) 1 1) (v : Value) (l : List UInt8) (hs : a.eval s = v) (hown : Ob lo' e w v l)
    (lo : Nat) (u : Value) (m : List UInt8) (hx : a.eval x = u) (hsl : Bs lo w u m) (r : List UInt8) (n : Nat) (hr : l ++ m = r) (hn : r.length = n) (hf : n ≤ 10000000) (hlo : lo' ≤ w.heap.size)
    (h : ∀ ad cap w', Ob lo' e w' (.slice ad n cap) r → Below lo' w w' → (∀ k, k < w.heap.size → v.ownBlock ≠ some k → w'.heap[k]? = w.heap[k]?) → (∀ x, ad = some x → v.ownBlock = some x.block ∨ x.block = w.heap.size) → wpList P ops Q rest (a.put o.dst (.slice ad n cap)) w') : wpList P ops Q (o :: rest) a w :=
  wpList_plain hgd fun _ hK => wp_append_any w lo' s x t ho e hE v l hs hown lo u m hx hsl r n hr hn hf hlo fun ad cap w' a b c d => hK _ _ (h ad cap w' a b c d)
theorem step_append_any {K : Act → World → Prop} {E : Prop} (w : World) (lo' : Nat) (hgd : o.guard = none) (s x : Operand) (t : TypeId) (ho : o.op = .call { callee := .builtin .append, args := #[s, x], argTypes := #[t, t] })
    (e : TypeId) (hE : ElemAt P t e (.int .u8 0) 1 1) (v : Value) (l : List UInt8) (hs : a.eval s = v) (hown : Ob lo' e w v l)
    (lo : Nat) (u : Value) (m : List UInt8) (hx : a.eval x = u) (hsl : Bs lo w u m) (r : List UInt8) (n : Nat) (hr : l ++ m = r) (hn : r.length = n) (hf : n ≤ 10000000) (hlo : lo' ≤ w.heap.size)
    (h : ∀ ad cap w', Ob lo' e w' (.slice ad n cap) r → Below lo' w w' → (∀ k, k < w.heap.size → v.ownBlock ≠ some k → w'.heap[k]? = w.heap[k]?) → (∀ x, ad = some x → v.ownBlock = some x.block ∨ x.block = w.heap.size) → K (a.put o.dst (.slice ad n cap)) w') :
    if Region.wanted o (yielded ops a.tmps) = true then Oper.wp P o a w K Q else E := by
  have hw : Region.wanted o (yielded ops a.tmps) = true := by simp [Region.wanted, hgd]
  rw [if_pos hw]
  exact wp_append_any w lo' s x t ho e hE v l hs hown lo u m hx hsl r n hr hn hf hlo h
end
/-- What a row shows hangs on its own block alone. -/
theorem Bs.blk {lo : Nat} {w w' : World} {ad : Option Addr} {m cap : Nat} {l : List UInt8} (h : Bs lo w (.slice ad m cap) l) (hk : l ≠ [] → ∀ x, ad = some x → w'.heap[x.block]? = w.heap[x.block]?) : Bs lo w' (.slice ad m cap) l := by
  obtain ⟨ad', cap', e, h1, h2, h3, h5, h4⟩ := h
  refine ⟨ad', cap', e, h1, h2, h3, h5, fun j u hj => ?_⟩
  obtain ⟨x, hx, hu⟩ := h4 j u hj
  refine ⟨x, hx, ?_⟩
  cases e
  rw [World.cell?_of_block (w := w) (by rw [Addr.add_block]; exact hk (by intro e; subst e; simp [u8s] at hj) x hx)]; exact hu
theorem Bs.lt {lo : Nat} {w : World} {ad : Option Addr} {m cap : Nat} {l : List UInt8} (h : Bs lo w (.slice ad m cap) l) (hl : l ≠ []) : ∀ x, ad = some x → lo ≤ x.block ∧ x.block < w.heap.size := by
  obtain ⟨ad', cap', e, h1, h2, h3, h5, h4⟩ := h
  intro x hx
  cases e
  cases l with
  | nil => exact absurd rfl hl
  | cons c l =>
    obtain ⟨y, hy, hu⟩ := h4 0 _ rfl
    rw [hx] at hy; cases hy
    have := World.block_lt_of_cell? w _ hu
    rw [Addr.add_block] at this
    exact ⟨h5 x hx, this⟩
theorem Ob.blk {lo : Nat} {e : TypeId} {w w' : World} {ad : Option Addr} {m cap : Nat} {l : List UInt8} (h : Ob lo e w (.slice ad m cap) l) (hk : ∀ x, ad = some x → w'.heap[x.block]? = w.heap[x.block]?) : Ob lo e w' (.slice ad m cap) l := by
  obtain ⟨hl, hn | ⟨g, c, cur, he, hbg, hg, r⟩⟩ := h
  · exact ⟨hl, .inl hn⟩
  · refine ⟨hl, .inr ⟨g, c, cur, he, hbg, ?_, r⟩⟩
    cases he
    exact (hk _ rfl).trans hg
theorem Ob.lt {lo : Nat} {e : TypeId} {w : World} {ad : Option Addr} {m cap : Nat} {l : List UInt8} (h : Ob lo e w (.slice ad m cap) l) : ∀ x, ad = some x → x.block < w.heap.size := fun x hx => (World.ownsRow.lt h x.block (by rw [hx]; rfl)).2
section
variable {P : Program} {ops : Array Oper} {rest : List Oper} {o : Oper} {a : Act} {Q : Exit → Act → World → Prop}
/-- 'append(s, x...)' where s has no room left and x is not empty: the row is new. -/
theorem append_fresh (w : World) (t ty e : TypeId) (hE : ElemAt P t e (.int .u8 0) 1 1) (lo1 : Nat) (b : Addr) (l : List UInt8) (hv : Bs lo1 w (.slice (some b) l.length l.length) l)
    (lo : Nat) (u : Value) (m : List UInt8) (hsl : Bs lo w u m) (hm : 0 < m.length) (hf : l.length + m.length ≤ 10000000) :
    ∃ cap w', (Builtin.append_ #[t, t] ty #[.slice (some b) l.length l.length, u]).run P w = .ok (.slice (some ⟨w.heap.size, 0, none⟩) (l.length + m.length) cap) w' ∧ Ob w.heap.size e w' (.slice (some ⟨w.heap.size, 0, none⟩) (l.length + m.length) cap) (l ++ m) ∧ Ext w w' := by
  obtain ⟨i, hi, hz, hsize, hby⟩ := info_parts hE.info
  have hF := fits (l.length + m.length) 1 hf (by decide)
  obtain ⟨ad1, cap1, e1, _, _, _, _, g1⟩ := hv
  cases e1
  obtain ⟨ad, cap, rfl, _, _, g3, _, g4⟩ := hsl
  cases ad with
  | none => have := g3 rfl; omega
  | some a =>
    have hr := run_append_grow (P := P) (w := w) t ty e i (.int .u8 0) hE.under hi hz b l.length l.length (u8s l) (by rw [u8s_len, hsize, Nat.mul_one]) (fun j v hj => by obtain ⟨y, hy, hu⟩ := g1 j v hj; cases hy; exact hu) a m.length cap (u8s m) (by rw [u8s_len, hsize, Nat.mul_one]) (fun j v hj => by obtain ⟨y, hy, hu⟩ := g4 j v hj; cases hy; exact hu) (by omega) (by omega) (growslice_fits (by omega) (by rw [hby]; omega))
    have hge := grownCap_ge w (l.length + m.length) l.length e
    refine ⟨_, _, hr, ?_, ((Below.refl _ _).drew).alloc (by simp) _⟩
    unfold Ob
    rw [List.length_append]
    refine ⟨by rw [u8s_len, List.length_append, Nat.mul_one], .inr ⟨w.heap.size, _, _, rfl, Nat.le_refl _, heap_alloc_new w.drew _, hge, grownCap_le_maxLen w _ _ e hF.2, ?_, ?_⟩⟩
    · have hz1 : (Value.cells (.int .u8 0)).size = 1 := rfl
      simp only [Array.size_append, List.size_toArray, size_zeroCells, hz1, u8s_len, Nat.mul_one]
      omega
    · simp only [Array.toList_append, List.append_assoc]
      rw [← List.append_assoc, ← u8s_app, show (l.length + m.length) * 1 = (u8s (l ++ m)).length from by rw [u8s_len, List.length_append, Nat.mul_one]]
      exact List.take_left
/-- The same in a plain region. -/
theorem wpList_append_fresh (w : World) (hgd : o.guard = none) (s x : Operand) (t : TypeId) (ho : o.op = .call { callee := .builtin .append, args := #[s, x], argTypes := #[t, t] })
    (e : TypeId) (hE : ElemAt P t e (.int .u8 0) 1 1) (lo1 : Nat) (b : Addr) (k : Nat) (l : List UInt8) (hk : k = l.length) (hs : a.eval s = .slice (some b) k k) (hv : Bs lo1 w (.slice (some b) k k) l)
    (lo : Nat) (u : Value) (m : List UInt8) (hx : a.eval x = u) (hsl : Bs lo w u m) (hm : 0 < m.length) (hf : l.length + m.length ≤ 10000000)
    (h : ∀ cap w', Ob w.heap.size e w' (.slice (some ⟨w.heap.size, 0, none⟩) (l.length + m.length) cap) (l ++ m) → Ext w w' → wpList P ops Q rest (a.put o.dst (.slice (some ⟨w.heap.size, 0, none⟩) (l.length + m.length) cap)) w') : wpList P ops Q (o :: rest) a w := by
  subst hk
  refine wpList_plain hgd fun _ hK => ?_
  obtain ⟨cap, w', hr, h1, h2⟩ := append_fresh (P := P) w t o.type e hE lo1 b l hv lo u m hsl hm hf
  unfold Oper.wp execOp
  simp only [ho, resolve, invoke, builtin, Sem.run_bind, Sem.run_pure, Result.andThen_ok, List.map_toArray, List.map_cons, List.map_nil, hs, hx, hr]
  exact hK _ _ (h cap w' h1 h2)
end
end Go.Proofs.Ytdcjhndcklofoaa
