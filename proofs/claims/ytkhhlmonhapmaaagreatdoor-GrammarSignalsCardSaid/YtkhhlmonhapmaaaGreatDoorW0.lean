import Derived.WalkKit
import Derived.WalkSpells
import Derived.WalkLawsBesides
import Derived.Handy
import Derived.Lib.Hide
import Derived.Laws.AppendOwnNone
import Derived.Laws.BytesArg
import Derived.Lib.SliceRun
import Derived.Lib.AppendStr
import Derived.Lib.SlBytesConst
import Derived.Deep.LoopGhost
import Derived.BigQuiet
import Derived.Deep.QuietTactic
import Derived.Deep.RegionWith
import Derived.Deep.RegionLaw
import Derived.Deep.CutBlock
import Derived.Deep.DeepCutAuto
/- The base of the walks: what a slice value shows, how long it lasts, and the append onto a row that the call owns. No program in sight. -/
namespace Go.Proofs.YtkhhlmonhapmaaaGreatDoor
open Go.RowKit
set_option linter.unusedSimpArgs false
set_option linter.unusedVariables false

/-! ### Worlds -/

/-- The blocks from lo up to hi are as they were. -/
def Agree (lo hi : Nat) (w w' : World) : Prop := ∀ k, lo ≤ k → k < hi → w'.heap[k]? = w.heap[k]?
theorem Agree.refl (lo hi : Nat) (w : World) : Agree lo hi w w := fun _ _ _ => rfl
theorem Agree.trans {lo hi : Nat} {a b c : World} (h : Agree lo hi a b) (k : Agree lo hi b c) : Agree lo hi a c := fun i h1 h2 => (k i h1 h2).trans (h i h1 h2)
theorem Agree.setCell {lo hi : Nat} {a w : World} (h : Agree lo hi a w) {p : Addr} (hp : p.block < lo ∨ hi ≤ p.block) (u : Value) : Agree lo hi a (w.setCell p u) :=
  fun k h1 h2 => (Below.heap_setCell _ _ _ _ (by omega)).trans (h k h1 h2)
theorem Agree.alloc {lo hi : Nat} {a w : World} (h : Agree lo hi a w) (hB : hi ≤ w.heap.size) (o : Obj) : Agree lo hi a (w.alloc o) :=
  fun k h1 h2 => (Below.heap_alloc _ _ _ (by omega)).trans (h k h1 h2)
theorem Agree.drew {lo hi : Nat} {a w : World} (h : Agree lo hi a w) : Agree lo hi a w.drew := h
theorem Agree.mono {lo hi lo' hi' : Nat} {w w' : World} (h : Agree lo hi w w') (h1 : lo ≤ lo') (h2 : hi' ≤ hi) : Agree lo' hi' w w' := fun k a b => h k (by omega) (by omega)
theorem Agree.of_below {B lo hi : Nat} {w w' : World} (h : Below B w w') (hh : hi ≤ B) : Agree lo hi w w' := fun k _ b => h.block k (by omega)
theorem Agree.below {lo hi B : Nat} {a b c : World} (h : Agree lo hi a b) (k : Below B b c) (hh : hi ≤ B) : Agree lo hi a c := h.trans (Agree.of_below k hh)
theorem Agree.cell {lo hi : Nat} {w w' : World} (h : Agree lo hi w w') {a : Addr} (h1 : lo ≤ a.block) (h2 : a.block < hi) : w'.cell? a = w.cell? a := World.cell?_of_block (h a.block h1 h2)

/-- 'w' is w with new blocks; nothing that was there has turned. -/
abbrev Ext (w w' : World) : Prop := Below w.heap.size w w'
theorem Ext.tr {a b c : World} (h : Ext a b) (k : Ext b c) : Ext a c := Below.trans h (k.mono h.size)
theorem Ext.al (w : World) (o : Obj) : Ext w (w.alloc o) := (Below.refl _ _).alloc (Nat.le_refl _) o
theorem Ext.agree {w w' : World} (h : Ext w w') (lo : Nat) : Agree lo w.heap.size w w' := Agree.of_below h (Nat.le_refl _)
/-- A block of the call's own, behind a call that leaves 'Ext'. -/
theorem Ext.blk {W w1 : World} (hb : Ext W w1) (b : Nat) (vs : Array Value) (hl : b < W.heap.size) (h : (∀ o, W.cell? ⟨b, o, none⟩ = vs[o]?) ∧ ∀ o, W.frozen? ⟨b, o, none⟩ = false) :
    (∀ o, w1.cell? ⟨b, o, none⟩ = vs[o]?) ∧ ∀ o, w1.frozen? ⟨b, o, none⟩ = false :=
  ⟨fun o => (hb.cell (p := ⟨b, o, none⟩) hl).trans (h.1 o), fun o => (hb.frozen (p := ⟨b, o, none⟩) hl).trans (h.2 o)⟩

theorem Below.blk {B : Nat} {W w1 : World} (hb : Below B W w1) (b : Nat) (vs : Array Value) (hl : b < B) (h : (∀ o, W.cell? ⟨b, o, none⟩ = vs[o]?) ∧ ∀ o, W.frozen? ⟨b, o, none⟩ = false) :
    (∀ o, w1.cell? ⟨b, o, none⟩ = vs[o]?) ∧ ∀ o, w1.frozen? ⟨b, o, none⟩ = false :=
  ⟨fun o => (hb.cell (p := ⟨b, o, none⟩) hl).trans (h.1 o), fun o => (hb.frozen (p := ⟨b, o, none⟩) hl).trans (h.2 o)⟩

@[go_sem] theorem nat_lt_add {a b k : Nat} (h : a < b) : (a < b + k) = True := eq_true (Nat.lt_add_right k h)
end Go.Proofs.YtkhhlmonhapmaaaGreatDoor
namespace Go
/-- w with the blocks t behind it, d answers drawn: what a call leaves of which no more is known than that nothing old has turned. -/
def World.ext (w : World) (t : Array Obj) (d : Nat) : World := { w with heap := w.heap ++ t, drawn := d }
end Go
namespace Go.Proofs.YtkhhlmonhapmaaaGreatDoor
open Go.RowKit
set_option linter.unusedSimpArgs false
set_option linter.unusedVariables false
section
variable {w w1 : World} {t : Array Obj} {d : Nat}
@[simp] theorem World.size_ext : (w.ext t d).heap.size = w.heap.size + t.size := by simp [World.ext]
@[simp] theorem World.tape_ext : (w.ext t d).tape = w.tape := rfl
theorem ext_block {k : Nat} (hk : k < w.heap.size) : (w.ext t d).heap[k]? = w.heap[k]? := by
  show (w.heap ++ t)[k]? = _
  rw [Array.getElem?_append_left hk]
theorem ext_tail {k : Nat} (hk : w.heap.size ≤ k) : (w.ext t d).heap[k]? = t[k - w.heap.size]? := by
  show (w.heap ++ t)[k]? = _
  rw [Array.getElem?_append_right hk]
@[go_sem] theorem cell?_ext (n i : Nat) (hn : n < w.heap.size) : (w.ext t d).cell? ⟨n, i, none⟩ = w.cell? ⟨n, i, none⟩ := World.cell?_of_block (ext_block hn)
@[go_sem] theorem frozen?_ext (n i : Nat) (hn : n < w.heap.size) : (w.ext t d).frozen? ⟨n, i, none⟩ = w.frozen? ⟨n, i, none⟩ := World.frozen?_of_block (ext_block hn)
@[go_sem] theorem setCell_ext (n i : Nat) (v : Value) (hn : n < w.heap.size) : (w.ext t d).setCell ⟨n, i, none⟩ v = (w.setCell ⟨n, i, none⟩ v).ext t d := by
  simp only [World.setCell, World.ext, World.mk.injEq, and_true]
  apply Array.ext_getElem?
  intro k
  by_cases hk : k < w.heap.size
  · rw [Array.getElem?_append_left (by simpa using hk), Array.getElem?_modify, Array.getElem?_modify, Array.getElem?_append_left hk]
  · rw [Array.getElem?_append_right (by simpa using Nat.le_of_not_lt hk), Array.getElem?_modify, if_neg (by omega), Array.getElem?_append_right (by omega)]
    simp
@[go_sem] theorem cell?_ext1 (o : Obj) (n i : Nat) (hn : n < w.heap.size) : ((w.ext t d).alloc o).cell? ⟨n, i, none⟩ = w.cell? ⟨n, i, none⟩ := (World.cell?_alloc_lt _ o ⟨n, i, none⟩ (by simp; omega)).trans (cell?_ext n i hn)
@[go_sem] theorem frozen?_ext1 (o : Obj) (n i : Nat) (hn : n < w.heap.size) : ((w.ext t d).alloc o).frozen? ⟨n, i, none⟩ = w.frozen? ⟨n, i, none⟩ := (World.frozen?_alloc_old _ o ⟨n, i, none⟩ (by simp; omega)).trans (frozen?_ext n i hn)
@[go_sem] theorem setCell_ext1 (o : Obj) (n i : Nat) (v : Value) (hn : n < w.heap.size) : ((w.ext t d).alloc o).setCell ⟨n, i, none⟩ v = ((w.setCell ⟨n, i, none⟩ v).ext t d).alloc o := by
  rw [World.setCell_alloc_past o n i v (by simp; omega), setCell_ext n i v hn]
@[go_sem] theorem cell?_ext2 (o o2 : Obj) (n i : Nat) (hn : n < w.heap.size) : (((w.ext t d).alloc o).alloc o2).cell? ⟨n, i, none⟩ = w.cell? ⟨n, i, none⟩ := (World.cell?_alloc_lt _ o2 ⟨n, i, none⟩ (by simp; omega)).trans (cell?_ext1 o n i hn)
@[go_sem] theorem frozen?_ext2 (o o2 : Obj) (n i : Nat) (hn : n < w.heap.size) : (((w.ext t d).alloc o).alloc o2).frozen? ⟨n, i, none⟩ = w.frozen? ⟨n, i, none⟩ := (World.frozen?_alloc_old _ o2 ⟨n, i, none⟩ (by simp; omega)).trans (frozen?_ext1 o n i hn)
@[go_sem] theorem setCell_ext2 (o o2 : Obj) (n i : Nat) (v : Value) (hn : n < w.heap.size) : (((w.ext t d).alloc o).alloc o2).setCell ⟨n, i, none⟩ v = (((w.setCell ⟨n, i, none⟩ v).ext t d).alloc o).alloc o2 := by
  rw [World.setCell_alloc_past o2 n i v (by simp; omega), setCell_ext1 o n i v hn]
@[go_sem] theorem cell?_ext3 (o o2 o3 : Obj) (n i : Nat) (hn : n < w.heap.size) : ((((w.ext t d).alloc o).alloc o2).alloc o3).cell? ⟨n, i, none⟩ = w.cell? ⟨n, i, none⟩ := (World.cell?_alloc_lt _ o3 ⟨n, i, none⟩ (by simp; omega)).trans (cell?_ext2 o o2 n i hn)
@[go_sem] theorem frozen?_ext3 (o o2 o3 : Obj) (n i : Nat) (hn : n < w.heap.size) : ((((w.ext t d).alloc o).alloc o2).alloc o3).frozen? ⟨n, i, none⟩ = w.frozen? ⟨n, i, none⟩ := (World.frozen?_alloc_old _ o3 ⟨n, i, none⟩ (by simp; omega)).trans (frozen?_ext2 o o2 n i hn)
@[go_sem] theorem setCell_ext3 (o o2 o3 : Obj) (n i : Nat) (v : Value) (hn : n < w.heap.size) : ((((w.ext t d).alloc o).alloc o2).alloc o3).setCell ⟨n, i, none⟩ v = ((((w.setCell ⟨n, i, none⟩ v).ext t d).alloc o).alloc o2).alloc o3 := by
  rw [World.setCell_alloc_past o3 n i v (by simp; omega), setCell_ext2 o o2 n i v hn]
@[go_sem] theorem ext_drew : (w.ext t d).drew = w.ext t (d + 1) := rfl
@[go_sem] theorem drew_ext : w.drew.ext t d = w.ext t d := rfl
theorem Below.ext {B : Nat} {a w : World} (h : Below B a w) (hB : B ≤ w.heap.size) (t : Array Obj) (d : Nat) : Below B a (w.ext t d) :=
  h.trans ⟨rfl, rfl, rfl, by simp, fun k hk => ext_block (by omega)⟩
theorem Below.drewN {B : Nat} {a w : World} (h : Below B a w) (n : Nat) : Below B a (w.drewN n) := ⟨h.os, h.tape, h.output, h.size, h.block⟩
@[go_sem] theorem ext_drewN (n : Nat) : (w.ext t d).drewN n = w.ext t (d + n) := rfl
@[go_sem] theorem drewN_ext (n : Nat) : (w.drewN n).ext t d = w.ext t d := rfl
theorem Ext.ext (w : World) (t : Array Obj) (d : Nat) : Ext w (w.ext t d) := Below.ext (Below.refl _ _) (Nat.le_refl _) t d
theorem Ext.ea (w : World) (t : Array Obj) (d : Nat) (o : Obj) : Ext w ((w.ext t d).alloc o) := (Ext.ext w t d).alloc (by simp) o
@[go_sem] theorem ext_ext (w : World) (t t2 : Array Obj) (d d2 : Nat) : (w.ext t d).ext t2 d2 = w.ext (t ++ t2) d2 := by simp [World.ext, Array.append_assoc]
theorem Ext.app (w : World) (t t2 : Array Obj) (d d2 : Nat) : Ext (w.ext t d) (w.ext (t ++ t2) d2) := by rw [← ext_ext w t t2 d d2]; exact Ext.ext _ _ _
/-- What lies in the tail hangs on the tail alone. -/
theorem Agree.tail {w w' : World} {t : Array Obj} {d d' lo hi : Nat} (hs : w'.heap.size = w.heap.size) (hl : w.heap.size ≤ lo) : Agree lo hi (w.ext t d) (w'.ext t d') := by
  intro k h1 h2
  rw [ext_tail (by omega), ext_tail (by omega), hs]
end

/-! ### Slices -/

/-- The slice value v has n elements, and shows the cells xs (all its elements' cells, one after the other) in w; they lie in blocks from lo on. -/
def Sl (lo : Nat) (w : World) (v : Value) (n : Nat) (xs : List Value) : Prop :=
  ∃ ad cap, v = .slice ad n cap ∧ n ≤ cap ∧ cap ≤ maxLen ∧ (ad = none → cap = 0) ∧ (∀ x, ad = some x → lo ≤ x.block) ∧
    ∀ j u, xs[j]? = some u → ∃ x, ad = some x ∧ w.cell? (x.add j) = some u

section
variable {lo : Nat} {w w' : World} {v : Value} {n : Nat} {xs : List Value}
theorem Sl.nil (lo : Nat) (w : World) : Sl lo w (.slice none 0 0) 0 [] := ⟨none, 0, rfl, Nat.le_refl _, by simp [maxLen], fun _ => rfl, fun x h => (by cases h), fun j u h => (by simp at h)⟩
theorem Sl.le (h : Sl lo w v n xs) : n ≤ maxLen := by
  obtain ⟨ad, cap, rfl, h1, h2, _⟩ := h; omega
theorem Sl.shape (h : Sl lo w v n xs) : ∃ ad cap, v = .slice ad n cap ∧ n ≤ cap := by
  obtain ⟨ad, cap, rfl, hn, _⟩ := h; exact ⟨ad, cap, rfl, hn⟩
theorem Addr.add_block (x : Addr) (j : Nat) : (x.add j).block = x.block := by unfold Addr.add; split <;> rfl
theorem Sl.agree (h : Sl lo w v n xs) (hc : Agree lo w.heap.size w w') : Sl lo w' v n xs := by
  obtain ⟨ad, cap, rfl, h1, h2, h3, h5, h4⟩ := h
  refine ⟨ad, cap, rfl, h1, h2, h3, h5, fun j u hj => ?_⟩
  obtain ⟨x, hx, hu⟩ := h4 j u hj
  refine ⟨x, hx, ?_⟩
  have hlt := World.block_lt_of_cell? w _ hu
  rw [hc.cell (by rw [Addr.add_block]; exact h5 x hx) hlt]; exact hu
theorem Sl.mono (h : Sl lo w v n xs) (hb : Ext w w') : Sl lo w' v n xs := h.agree (hb.agree lo)
theorem Sl.weak {lo' : Nat} (h : Sl lo w v n xs) (hl : lo' ≤ lo) : Sl lo' w v n xs := by
  obtain ⟨ad, cap, rfl, h1, h2, h3, h5, h4⟩ := h
  exact ⟨ad, cap, rfl, h1, h2, h3, fun x hx => Nat.le_trans hl (h5 x hx), h4⟩
theorem Sl.own {base : Nat} {e : TypeId} {size : Nat} (h : w.ownsRow base e size v n xs) : Sl base w v n xs := by
  obtain ⟨hl, ⟨rfl, rfl⟩ | ⟨g, cap, cur, rfl, hbg, hg, hn, hm, hs, ht⟩⟩ := h
  · have : xs = [] := List.eq_nil_of_length_eq_zero (by simpa using hl)
    subst this; exact Sl.nil _ w
  · refine ⟨_, _, rfl, hn, hm, (by intro h; cases h), (by intro x hx; cases hx; exact hbg), fun j u hj => ⟨_, rfl, ?_⟩⟩
    have hadd : (⟨g, 0, none⟩ : Addr).add j = ⟨g, j, none⟩ := by unfold Addr.add; split <;> simp_all
    rw [hadd, cell_of_row w g j cur e (0, 0) hg]
    have hjl : j < xs.length := (List.getElem?_eq_some_iff.1 hj).1
    rw [← ht, List.getElem?_take, if_pos (by omega)] at hj
    simpa using hj
/-- As a walk wants it: an address that is written out, or nothing to read. -/
theorem Sl.split (h : Sl lo w v n xs) : ∃ ad cap, v = .slice ad n cap ∧ n ≤ cap ∧ cap ≤ maxLen ∧ (ad = none → cap = 0) ∧
    (xs = [] ∨ ∃ b o, ad = some ⟨b, o, none⟩ ∧ b < w.heap.size ∧ ∀ j u, xs[j]? = some u → w.cell? ⟨b, o + j, none⟩ = some u) := by
  obtain ⟨ad, cap, rfl, h1, h2, h3, _, h4⟩ := h
  refine ⟨ad, cap, rfl, h1, h2, h3, ?_⟩
  cases xs with
  | nil => exact .inl rfl
  | cons y ys =>
    obtain ⟨⟨b, o, sp⟩, rfl, hx⟩ := h4 0 y rfl
    have hs : sp = none := by
      cases sp with
      | none => rfl
      | some q => simp [Addr.add, World.cell?] at hx; split at hx <;> simp at hx
    subst hs
    have hlt := World.block_lt_of_cell? w _ hx
    refine .inr ⟨b, o, rfl, by simpa [Addr.add_block] using hlt, fun j u hj => ?_⟩
    obtain ⟨x, hx, hu⟩ := h4 j u hj
    cases hx
    have hadd : (⟨b, o, none⟩ : Addr).add j = ⟨b, o + j, none⟩ := by unfold Addr.add; split <;> simp_all
    rwa [hadd] at hu
/-- An owned row stays owned where the blocks from its base on stay. -/
theorem own_agree {base : Nat} {e : TypeId} {size : Nat} (h : w.ownsRow base e size v n xs) (hc : Agree base w.heap.size w w') : w'.ownsRow base e size v n xs := by
  obtain ⟨hl, hn | ⟨g, cap, cur, rfl, hbg, hg, r⟩⟩ := h
  · exact ⟨hl, .inl hn⟩
  · exact ⟨hl, .inr ⟨g, cap, cur, rfl, hbg, (hc g hbg (Array.getElem?_eq_some_iff.1 hg).1).trans hg, r⟩⟩
theorem own_mono {base : Nat} {e : TypeId} {size : Nat} (h : w.ownsRow base e size v n xs) (hc : Ext w w') : w'.ownsRow base e size v n xs := own_agree h (hc.agree _)
theorem own_weak {base base' : Nat} {e : TypeId} {size : Nat} (h : w.ownsRow base e size v n xs) (hb : base' ≤ base) : w.ownsRow base' e size v n xs := by
  obtain ⟨hl, hn | ⟨g, cap, cur, rfl, hbg, r⟩⟩ := h
  · exact ⟨hl, .inl hn⟩
  · exact ⟨hl, .inr ⟨g, cap, cur, rfl, by omega, r⟩⟩
/-- 'T{}': an empty row of the call's own. -/
theorem own_new (w : World) (lo g : Nat) (e : TypeId) (size : Nat) (hg : g = w.heap.size) (h : lo ≤ w.heap.size) : (w.alloc (.cells #[] e)).ownsRow lo e size (.slice (some ⟨g, 0, none⟩) 0 0) 0 [] := by
  subst hg; exact World.ownsRow_lit w #[] 0 h (Nat.zero_le _) (by simp)
end

/-! ### append -/

/-- So many elements of so many bytes each may be appended. -/
def Fits (n bytes : Nat) : Prop := n * bytes ≤ 140737488355328 ∧ n ≤ maxLen
theorem fits (n bytes : Nat) (h : n ≤ 10000000) (hb : bytes ≤ 100000) : Fits n bytes := by
  have : n * bytes ≤ 10000000 * 100000 := Nat.mul_le_mul h hb
  exact ⟨by omega, by unfold maxLen; omega⟩
/-- The row of an element type in the program's table: its zero value, its cells, its bytes. -/
structure ElemAt (P : Program) (t e : TypeId) (z : Value) (size bytes : Nat) : Prop where
  under : P.underlying t = some (.slice e)
  info : (P.info? e).map (fun i => (i.zero, i.size, i.bytes)) = some (some z, size, bytes)
  zs : z.cells.size = size
  pos : 0 < size

section
variable {P : Program} {ops : Array Oper} {rest : List Oper} {o : Oper} {a : Act} {Q : Exit → Act → World → Prop}
end

section
variable {P : Program}
@[go_sem] theorem eql_slice_nil (w : World) (t : TypeId) (a : Option Addr) (n c n' c' : Nat) (h : P.underlying t = some (.slice (P.elem t))) :
    (binOp .eql t (.slice a n c) (.slice none n' c')).run P w = .ok (.bool a.isNone) w := Lib.run_eql_slice_nil w t _ a n c n' c' h
@[go_sem] theorem neq_slice_nil (w : World) (t : TypeId) (a : Option Addr) (n c n' c' : Nat) (h : P.underlying t = some (.slice (P.elem t))) :
    (binOp .neq t (.slice a n c) (.slice none n' c')).run P w = .ok (.bool (!a.isNone)) w := run_neq_slice_nil_any w t _ a n c n' c' h
end

/-! ### Bytes -/

/-- The cells of bytes. -/
def u8s (l : List UInt8) : List Value := l.map fun b => .int .u8 b.toNat
theorem u8s_len (l : List UInt8) : (u8s l).length = l.length := by simp [u8s]
/-- A []byte that reads as l. -/
def Bs (lo : Nat) (w : World) (v : Value) (l : List UInt8) : Prop := Sl lo w v l.length (u8s l)
section
variable {lo : Nat} {w w' : World} {v : Value} {l : List UInt8}
theorem Bs.mono (h : Bs lo w v l) (hb : Ext w w') : Bs lo w' v l := Sl.mono h hb
theorem Bs.agree (h : Bs lo w v l) (hb : Agree lo w.heap.size w w') : Bs lo w' v l := Sl.agree h hb
theorem Bs.weak {lo' : Nat} (h : Bs lo w v l) (hl : lo' ≤ lo) : Bs lo' w v l := Sl.weak h hl
theorem Bs.nil (lo : Nat) (w : World) : Bs lo w (.slice none 0 0) [] := Sl.nil lo w
theorem Bs.drew (h : Bs lo w v l) : Bs lo w.drew v l := h
theorem Bs.le (h : Bs lo w v l) : l.length ≤ maxLen := Sl.le h
theorem Bs.shape (h : Bs lo w v l) : ∃ ad cap, v = .slice ad l.length cap ∧ l.length ≤ cap := Sl.shape h
/-- 'b[:k]'. -/
theorem Bs.take {ad : Option Addr} {n cap : Nat} (h : Bs lo w (.slice ad n cap) l) (k : Nat) (hk : k ≤ l.length) : Bs lo w (.slice ad k cap) (l.take k) := by
  obtain ⟨ad', cap', e, h1, h2, h3, h5, h4⟩ := h
  cases e
  have hkl : (l.take k).length = k := by simp; omega
  refine ⟨ad, cap, by rw [hkl], by omega, h2, h3, h5, fun j u hj => ?_⟩
  have hj' : (u8s l)[j]? = some u := by
    rw [u8s, List.getElem?_map] at hj ⊢
    rw [List.getElem?_take] at hj
    split at hj
    · exact hj
    · simp at hj
  exact h4 j u hj'
/-- 'b[k:]'. -/
theorem Bs.drop {ad : Option Addr} {n cap : Nat} (h : Bs lo w (.slice ad n cap) l) (k : Nat) (hk : k ≤ l.length) : Bs lo w (.slice (if cap = k then ad else ad.map (·.add k)) (n - k) (cap - k)) (l.drop k) := by
  obtain ⟨ad', cap', e, h1, h2, h3, h5, h4⟩ := h
  cases e
  refine ⟨_, _, by rw [List.length_drop], by rw [List.length_drop]; omega, by omega, ?_, ?_, fun j u hj => ?_⟩
  · intro he
    split at he
    · have := h3 he; omega
    · cases ad with
      | none => have := h3 rfl; omega
      | some x => simp at he
  · intro x hx
    split at hx
    · exact h5 x hx
    · cases ad with
      | none => simp at hx
      | some y => simp at hx; subst hx; rw [Addr.add_block]; exact h5 y rfl
  · have hj' : (u8s l)[k + j]? = some u := by
      rw [u8s, List.getElem?_map] at hj ⊢
      rwa [List.getElem?_drop] at hj
    obtain ⟨x, rfl, hx⟩ := h4 _ u hj'
    have hne : cap ≠ k := by
      have hlt := (List.getElem?_eq_some_iff.1 hj').1
      rw [u8s_len] at hlt; omega
    refine ⟨x.add k, by rw [if_neg hne]; rfl, ?_⟩
    have : (x.add k).add j = x.add (k + j) := by
      unfold Addr.add
      by_cases hk0 : k = 0
      · subst hk0; simp
      · by_cases hj0 : j = 0
        · subst hj0; simp [hk0]
        · have : k + j ≠ 0 := by omega
          simp [hk0, hj0]; omega
    rw [this]; exact hx
theorem Bs.own {base : Nat} {e : TypeId} (h : w.ownsRow base e 1 v l.length (u8s l)) : Bs base w v l := Sl.own h
end
/-- A block of bytes, made now. -/
theorem Bs.block (w : World) (lo g n c : Nat) (C : Array Value) (e : TypeId) (fr : Nat × Nat) (l : List UInt8) (hg : g = w.heap.size) (hlo : lo ≤ g) (hC : C.toList = u8s l) (hn : n = l.length) (hnc : n ≤ c) (hc : c ≤ maxLen) : Bs lo (w.alloc (.cells C e fr)) (.slice (some ⟨g, 0, none⟩) n c) l := by
  subst hg hn
  refine ⟨_, _, rfl, hnc, hc, (by intro h; cases h), (by intro x hx; cases hx; exact hlo), fun j u hj => ⟨_, rfl, ?_⟩⟩
  have hadd : (⟨w.heap.size, 0, none⟩ : Addr).add j = ⟨w.heap.size, j, none⟩ := by unfold Addr.add; split <;> simp_all
  rw [hadd, World.cell?_alloc_mark, ← Array.getElem?_toList, hC, hj]
section
variable {P : Program}
@[go_sem] theorem conv_bytes_const (w : World) (t e : TypeId) (C : Array Value) (g n c : Nat) (hg : g = w.heap.size) (ht : P.underlying t = some (.slice (P.elem t))) (he : P.elem t = e) (hu : P.underlying e = some (.int .u8)) :
    (convert t t (.slice (some ⟨g, 0, none⟩) n c)).run P (w.alloc (.cells C e)) = .ok (.slice (some ⟨g, 0, none⟩) n c) (w.alloc (.cells C e (C.size, C.size + 1))) := by
  subst hg he; exact Lib.run_convert_bytes_const w t _ C n c ht hu
end
@[go_sem] theorem cell?_alloc_at_mark (w : World) (C : Array Value) (t : TypeId) (fr : Nat × Nat) (n j : Nat) (hn : n = w.heap.size) : (w.alloc (.cells C t fr)).cell? ⟨n, j, none⟩ = C[j]? := by
  subst hn; exact World.cell?_alloc_mark w C t fr j
/-- A []byte that is nil or the call's own, and holds l. -/
def Ob (lo : Nat) (e : TypeId) (w : World) (v : Value) (l : List UInt8) : Prop := w.ownsRow lo e 1 v l.length (u8s l)
section
variable {lo : Nat} {e : TypeId} {w w' : World} {v : Value} {l : List UInt8}
theorem Ob.bs (h : Ob lo e w v l) : Bs lo w v l := Sl.own h
theorem Ob.mono (h : Ob lo e w v l) (hb : Ext w w') : Ob lo e w' v l := own_mono h hb
theorem Ob.agree (h : Ob lo e w v l) (hb : Agree lo w.heap.size w w') : Ob lo e w' v l := own_agree h hb
theorem Ob.weak {lo' : Nat} (h : Ob lo e w v l) (hl : lo' ≤ lo) : Ob lo' e w v l := own_weak h hl
theorem Ob.nil (lo : Nat) (e : TypeId) (w : World) : Ob lo e w (.slice none 0 0) [] := World.ownsRow_nil _ _ _ _
theorem Ob.drew (h : Ob lo e w v l) : Ob lo e w.drew v l := World.ownsRow.drew h
theorem Ob.new (w : World) (lo g : Nat) (e : TypeId) (hg : g = w.heap.size) (h : lo ≤ w.heap.size) : Ob lo e (w.alloc (.cells #[] e)) (.slice (some ⟨g, 0, none⟩) 0 0) [] := own_new w lo g e 1 hg h
/-- The end of a walk: what lies in the tail, in the last world, from a lower block on. -/
theorem Bs.fin {t : Array Obj} {d d' lo' : Nat} {v' : Value} {l' : List UInt8} (h : Bs lo (w.ext t d) v l) (hs : w'.heap.size = w.heap.size) (hl : w.heap.size ≤ lo) (hlo : lo' ≤ lo) (hv : v' = v) (hll : l' = l) : Bs lo' (w'.ext t d') v' l' := by
  subst hv hll; exact (h.agree (Agree.tail hs hl)).weak hlo
theorem Bs.tail {w' : World} {t : Array Obj} {d d' : Nat} (h : Bs lo (w.ext t d) v l) (hs : w'.heap.size = w.heap.size) (hl : w.heap.size ≤ lo) : Bs lo (w'.ext t d') v l := h.agree (Agree.tail hs hl)
theorem Ob.tail {w' : World} {t : Array Obj} {d d' : Nat} (h : Ob lo e (w.ext t d) v l) (hs : w'.heap.size = w.heap.size) (hl : w.heap.size ≤ lo) : Ob lo e (w'.ext t d') v l := h.agree (Agree.tail hs hl)
end
section
variable {P : Program} {ops : Array Oper} {rest : List Oper} {o : Oper} {a : Act} {Q : Exit → Act → World → Prop}
end
/-- The bytes of cells. -/
def unb (l : List Value) : List UInt8 := l.map fun v => match v with | .int _ n => UInt8.ofNat n.toNat | _ => 0
@[simp, go_sem] theorem unb_len (l : List Value) : (unb l).length = l.length := by simp [unb]
/-- A literal of bytes, made now: the call's own. -/
theorem Ob.block (w : World) (lo g n : Nat) (C : Array Value) (e : TypeId) (l : List UInt8) (hg : g = w.heap.size) (hlo : lo ≤ g) (hC : C.toList = u8s l) (hn : n = l.length) (hm : n ≤ maxLen) : Ob lo e (w.alloc (.cells C e)) (.slice (some ⟨g, 0, none⟩) n n) l := by
  subst hg hn
  have := World.ownsRow_lit (size := 1) (e := e) w C l.length hlo hm (by rw [← Array.length_toList, hC, u8s_len, Nat.mul_one])
  rw [hC] at this
  exact this
section
variable {P : Program} {ops : Array Oper} {rest : List Oper} {o : Oper} {a : Act} {Q : Exit → Act → World → Prop}
end
/-- A string out of bytes. -/
def bs (l : List UInt8) : ByteArray := ⟨l.toArray⟩
@[simp, go_sem] theorem bs_toList (l : List UInt8) : (bs l).toList = l := by simp [bs, ByteArray.toList_eq]
@[simp, go_sem] theorem bs_data (l : List UInt8) : (bs l).data.toList = l := by simp [bs]
@[simp, go_sem] theorem bs_size (l : List UInt8) : (bs l).size = l.length := by simp [bs, ByteArray.size]
@[simp, go_sem] theorem bs_append (l m : List UInt8) : bs l ++ bs m = bs (l ++ m) := by
  apply ByteArray.ext; simp [bs, ByteArray.data_append]
section
variable {P : Program}
end
end Go.Proofs.YtkhhlmonhapmaaaGreatDoor
/- The package variables that the code reads, and what lies there. No program in sight. -/
namespace Go.Proofs.YtkhhlmonhapmaaaGreatDoor
open Go.RowKit
set_option linter.unusedSimpArgs false
set_option linter.unusedVariables false
/-- The blocks below gN are package variables; Gw says what lies there: errors.errorType, the handle of the type error. -/
def gN : Nat := 1
def Gw (w : World) : Prop := w.cell? ⟨0, 0, none⟩ = some (.iface 158 (.agg #[.pointer (some ⟨9, 82, none⟩)]))
theorem Gw.keep {w w' : World} (h : Gw w) (hb : ∀ k, k < gN → w'.heap[k]? = w.heap[k]?) : Gw w' := by
  unfold Gw at *
  rw [World.cell?_of_block (a := ⟨0, 0, none⟩) (hb 0 (by decide))]; exact h
theorem Gw.le {w : World} (h : Gw w) : gN ≤ w.heap.size := World.block_lt_of_cell? w _ h
/-- The package variables are as said, and in none of the blocks of O. -/
def GL (O : Nat → Prop) (w : World) : Prop := (∀ k, k < gN → ¬ O k) ∧ Gw w
theorem GL.mono {O O' : Nat → Prop} {w : World} (h : GL O w) (ho : ∀ k, O' k → O k) : GL O' w := ⟨fun k hk hn => h.1 k hk (ho k hn), h.2⟩
theorem GL.none {w : World} (h : Gw w) : GL (fun _ => False) w := ⟨fun _ _ h => h, h⟩
end Go.Proofs.YtkhhlmonhapmaaaGreatDoor
