/- More of the base: strings of bytes under index and slice, appends of a literal. No program in sight. -/
import Derived.Test.YtjgafhnppplmoaaBase
import Derived.Lib.ConvBytes
namespace Go.Proofs.Ytjgafhnppplmoaa
open Go.RowKit
set_option linter.unusedSimpArgs false
set_option linter.unusedVariables false
@[simp, go_sem] theorem bs_get (l : List UInt8) (i : Nat) (h : i < (bs l).size) : (bs l)[i] = l[i]'(by simpa using h) := by
  simp [bs, ByteArray.getElem_eq_getElem_data]
@[simp, go_sem] theorem bs_from (l : List UInt8) (i : Nat) : (bs l).extract i l.length = bs (l.drop i) := by
  apply ByteArray.ext; apply Array.toList_inj.1; simp [bs, ByteArray.data_extract, List.take_of_length_le]
@[simp, go_sem] theorem bs_to (l : List UInt8) (k : Nat) : (bs l).extract 0 k = bs (l.take k) := by
  apply ByteArray.ext; apply Array.toList_inj.1; simp [bs, ByteArray.data_extract, List.take_of_length_le]
theorem bs_nil : bs [] = ⟨#[]⟩ := rfl
theorem bs_lit (a : Array UInt8) : (⟨a⟩ : ByteArray) = bs a.toList := by simp [bs]
theorem drop_cons {l : List UInt8} {k : Nat} (h : k < l.length) : l.drop k = l[k] :: l.drop (k + 1) := List.drop_eq_getElem_cons h
section
variable {P : Program} {ops : Array Oper} {rest : List Oper} {o : Oper} {a : Act} {Q : Exit → Act → World → Prop}
/-- 'append(s, x1, .., xk)' of bytes: their row has been made just now. -/
theorem wpList_append_lit (W w : World) (lo' : Nat) (hgd : o.guard = none) (s x : Operand) (t : TypeId) (ho : o.op = .call { callee := .builtin .append, args := #[s, x], argTypes := #[t, t] })
    (e : TypeId) (hE : ElemAt P t e (.int .u8 0) 1 1) (v : Value) (l : List UInt8) (hs : a.eval s = v) (hown : Ob lo' e w v l)
    (C : Array Value) (g k : Nat) (m : List UInt8) (hx : a.eval x = .slice (some ⟨g, 0, none⟩) k k) (hg : g = w.heap.size) (hC : C.toList = u8s m) (hk : k = m.length) (r : List UInt8) (n : Nat) (hr : l ++ m = r) (hn : r.length = n) (hf : n ≤ 10000000) (hW : Ext W w) (hlo : W.heap.size = lo')
    (h : ∀ ad cap t' d', Ob lo' e (W.ext t' d') (.slice ad n cap) r → wpList P ops Q rest (a.put o.dst (.slice ad n cap)) (W.ext t' d')) : wpList P ops Q (o :: rest) a (w.alloc (.cells C e)) := by
  subst hg hk
  refine wpList_append_bytes W (w.alloc (.cells C e)) lo' hgd s x t ho e hE v l hs (hown.mono (Ext.al _ _)) 0 _ m hx (Bs.block _ _ _ _ _ _ _ _ m rfl (Nat.zero_le _) hC rfl (Nat.le_refl _) ?_) r n hr hn hf (hW.trans (Below.alloc (Below.refl _ _) hW.size _)) hlo fun ad cap t' d' a _ => h ad cap t' d' a
  have h1 : m.length ≤ r.length := by rw [← hr]; simp
  unfold maxLen; omega
/-- A row that is nil or the call's own, of n elements with the cells xs. -/
def Ow (lo : Nat) (e : TypeId) (size : Nat) (w : World) (v : Value) (n : Nat) (xs : List Value) : Prop := w.ownsRow lo e size v n xs
/-- 'append(s, x1, .., xk)' of whatever elements: their row has been made just now. -/
theorem wpList_append_row (W w : World) (lo' : Nat) (hgd : o.guard = none) (s x : Operand) (t : TypeId) (ho : o.op = .call { callee := .builtin .append, args := #[s, x], argTypes := #[t, t] })
    (e : TypeId) (z : Value) (size bytes : Nat) (hE : ElemAt P t e z size bytes) (v : Value) (n : Nat) (xs : List Value) (hs : a.eval s = v) (hown : Ow lo' e size w v n xs)
    (C : Array Value) (g k : Nat) (ys : List Value) (hx : a.eval x = .slice (some ⟨g, 0, none⟩) k k) (hg : g = w.heap.size) (hC : C.toList = ys) (hk : ys.length = k * size) (h1 : ∀ u ∈ ys, u.oneCell' = true) (hf : n + k ≤ 10000000) (hb : bytes ≤ 100000) (hW : Ext W w) (hlo : W.heap.size = lo')
    (h : ∀ ad cap t' d', Ow lo' e size (W.ext t' d') (.slice ad (n + k) cap) (n + k) (xs ++ ys) → wpList P ops Q rest (a.put o.dst (.slice ad (n + k) cap)) (W.ext t' d')) : wpList P ops Q (o :: rest) a (w.alloc (.cells C e)) := by
  subst hg hlo hC
  have hsl : Sl 0 (w.alloc (.cells C e)) (.slice (some ⟨w.heap.size, 0, none⟩) k k) k C.toList := by
    refine ⟨_, _, rfl, Nat.le_refl _, (by unfold maxLen; omega), (by intro h; cases h), (fun _ _ => Nat.zero_le _), fun j u hj => ⟨_, rfl, ?_⟩⟩
    have hadd : (⟨w.heap.size, 0, none⟩ : Addr).add j = ⟨w.heap.size, j, none⟩ := by unfold Addr.add; split <;> simp_all
    rw [hadd, World.cell?_alloc_mark, ← Array.getElem?_toList, hj]
  refine wpList_append_sl (w.alloc (.cells C e)) hgd s x t ho W.heap.size e z size bytes hE v n xs hs (own_mono hown (Ext.al _ _)) 0 _ k C.toList hx hsl hk h1 (fits _ _ hf hb) (Nat.le_trans hW.size (by simp)) ?_
  intro v' w' h2 _ h3 _
  have hE' : Ext W w' := (hW.trans (Below.alloc (Below.refl _ _) hW.size _)).trans h3
  obtain ⟨t', d', rfl⟩ := Ext.form hE'
  obtain ⟨ad, cap, rfl, _⟩ := (Sl.own h2).shape
  exact h ad cap t' d' h2
end
section
variable {lo : Nat} {e : TypeId} {size n : Nat} {w w' : World} {v : Value} {xs : List Value}
theorem Ow.sl (h : Ow lo e size w v n xs) : Sl lo w v n xs := Sl.own h
theorem Ow.mono (h : Ow lo e size w v n xs) (hb : Ext w w') : Ow lo e size w' v n xs := own_mono h hb
theorem Ow.agree (h : Ow lo e size w v n xs) (hb : Agree lo w.heap.size w w') : Ow lo e size w' v n xs := own_agree h hb
theorem Ow.weak {lo' : Nat} (h : Ow lo e size w v n xs) (hl : lo' ≤ lo) : Ow lo' e size w v n xs := own_weak h hl
theorem Ow.nil (lo : Nat) (e : TypeId) (size : Nat) (w : World) : Ow lo e size w (.slice none 0 0) 0 [] := World.ownsRow_nil _ _ _ _
theorem Ow.shape (h : Ow lo e size w v n xs) : ∃ ad cap, v = .slice ad n cap ∧ n ≤ cap := (Sl.own h).shape
end
/-- What '[]byte(s)' lays. -/
def strObj (w : World) (e : TypeId) (s : ByteArray) : Obj := .cells (Lib.bytesCells w e s) e ((Lib.bytesCells w e s).size, (Lib.bytesCells w e s).size + 1)
theorem bytesWorld_ext (w : World) (e : TypeId) (s : ByteArray) : Lib.bytesWorld w e s = w.ext #[strObj w e s] (w.drawn + 1) := by
  have h1 : (Lib.bytesWorld w e s).heap = w.heap ++ #[strObj w e s] := by
    apply Array.ext_getElem?
    intro j
    by_cases hj : j < w.heap.size
    · rw [Lib.bytesWorld_at_old w e s j hj, Array.getElem?_append_left hj]
    · rw [Array.getElem?_append_right (by omega)]
      by_cases he : j = w.heap.size
      · subst he; rw [Lib.bytesWorld_at_new, Nat.sub_self]; rfl
      · have h1 : (#[strObj w e s] : Array Obj).size = 1 := rfl
        rw [Array.getElem?_eq_none (by rw [Lib.bytesWorld_size]; omega), Array.getElem?_eq_none (by rw [h1]; omega)]
  have h2 : Lib.bytesWorld w e s = { w with heap := (Lib.bytesWorld w e s).heap, drawn := w.drawn + 1 } := rfl
  rw [h2, h1]; rfl
@[go_sem] theorem conv_string_bytes {P : Program} (w : World) (src t e : TypeId) (s : ByteArray) (hs : P.underlying src = some .string) (ht : P.underlying t = some (.slice (P.elem t))) (he : P.elem t = e) (hu : P.underlying e = some (.int .u8)) :
    (convert src t (.string s)).run P w = .ok (.slice (some ⟨w.heap.size, 0, none⟩) s.size (grownCap w s.size 0 e)) (w.ext #[strObj w e s] (w.drawn + 1)) := by
  subst he; rw [Lib.run_convert_string_bytes w src t _ s hs ht hu, bytesWorld_ext]
theorem bs_conv (w : World) (lo g n : Nat) (e : TypeId) (s : ByteArray) (l : List UInt8) (hg : g = w.heap.size) (hn : n = s.size) (hl : l = s.data.toList) (hs : s.size ≤ 1000000) (hlo : lo ≤ w.heap.size) : Bs lo (w.ext #[strObj w e s] (w.drawn + 1)) (.slice (some ⟨g, 0, none⟩) n (grownCap w n 0 e)) l := by
  subst hg hn hl
  have h1 := grownCap_ge w s.size 0 e
  have h2 := grownCap_le_maxLen w s.size 0 e (by unfold maxLen; omega)
  have hl : s.data.toList.length = s.size := Array.length_toList
  refine ⟨_, _, by rw [hl], by rw [hl]; exact h1, h2, (by intro h; cases h), (by intro x hx; cases hx; exact hlo), fun j u hj => ⟨_, rfl, ?_⟩⟩
  have hadd : (⟨w.heap.size, 0, none⟩ : Addr).add j = ⟨w.heap.size, j, none⟩ := by unfold Addr.add; split <;> simp_all
  have hj' := (List.getElem?_eq_some_iff.1 hj).1
  rw [u8s_len, hl] at hj'
  rw [hadd, ← bytesWorld_ext, Lib.bytesWorld_cell w e s j hj']
  rw [u8s, List.getElem?_map, List.getElem?_eq_getElem (by rw [hl]; exact hj')] at hj
  rw [List.getD, List.getElem?_eq_getElem (by rw [hl]; exact hj')]
  exact hj
end Go.Proofs.Ytjgafhnppplmoaa
