import Derived.WalkKit
import Derived.WalkSpells
import Derived.WalkLawsBesides
import Derived.Handy
import Derived.Lib.Hide
import Derived.Laws.AppendOwnNone
import Derived.Laws.BytesArg
import Derived.Lib.SliceRun
import Derived.Lib.AppendStr
import Derived.Lib.SlBytesConst
import Derived.Deep.LoopGhost
import Derived.BigQuiet
import Derived.Deep.QuietTactic
import Derived.Deep.RegionWith
import Derived.Deep.RegionLaw
import Derived.Deep.CutBlock
import Derived.Deep.DeepCutAuto
/- The base of the walks: what a slice value shows, how long it lasts, and the append onto a row that the call owns. No program in sight. -/
namespace Go.Proofs.YtfaljkenmbbbaaaDoor
open Go.RowKit
set_option linter.unusedSimpArgs false
set_option linter.unusedVariables false

/-! ### Worlds -/

/-- The blocks from lo up to hi are as they were. -/
def Agree (lo hi : Nat) (w w' : World) : Prop := ∀ k, lo ≤ k → k < hi → w'.heap[k]? = w.heap[k]?
theorem Agree.refl (lo hi : Nat) (w : World) : Agree lo hi w w := fun _ _ _ => rfl
theorem Agree.trans {lo hi : Nat} {a b c : World} (h : Agree lo hi a b) (k : Agree lo hi b c) : Agree lo hi a c := fun i h1 h2 => (k i h1 h2).trans (h i h1 h2)
theorem Agree.setCell {lo hi : Nat} {a w : World} (h : Agree lo hi a w) {p : Addr} (hp : p.block < lo ∨ hi ≤ p.block) (u : Value) : Agree lo hi a (w.setCell p u) :=
  fun k h1 h2 => (Below.heap_setCell _ _ _ _ (by omega)).trans (h k h1 h2)
theorem Agree.alloc {lo hi : Nat} {a w : World} (h : Agree lo hi a w) (hB : hi ≤ w.heap.size) (o : Obj) : Agree lo hi a (w.alloc o) :=
  fun k h1 h2 => (Below.heap_alloc _ _ _ (by omega)).trans (h k h1 h2)
theorem Agree.drew {lo hi : Nat} {a w : World} (h : Agree lo hi a w) : Agree lo hi a w.drew := h
theorem Agree.mono {lo hi lo' hi' : Nat} {w w' : World} (h : Agree lo hi w w') (h1 : lo ≤ lo') (h2 : hi' ≤ hi) : Agree lo' hi' w w' := fun k a b => h k (by omega) (by omega)
theorem Agree.of_below {B lo hi : Nat} {w w' : World} (h : Below B w w') (hh : hi ≤ B) : Agree lo hi w w' := fun k _ b => h.block k (by omega)
theorem Agree.below {lo hi B : Nat} {a b c : World} (h : Agree lo hi a b) (k : Below B b c) (hh : hi ≤ B) : Agree lo hi a c := h.trans (Agree.of_below k hh)
theorem Agree.cell {lo hi : Nat} {w w' : World} (h : Agree lo hi w w') {a : Addr} (h1 : lo ≤ a.block) (h2 : a.block < hi) : w'.cell? a = w.cell? a := World.cell?_of_block (h a.block h1 h2)

/-- 'w' is w with new blocks; nothing that was there has turned. -/
abbrev Ext (w w' : World) : Prop := Below w.heap.size w w'
theorem Ext.tr {a b c : World} (h : Ext a b) (k : Ext b c) : Ext a c := Below.trans h (k.mono h.size)
theorem Ext.al (w : World) (o : Obj) : Ext w (w.alloc o) := (Below.refl _ _).alloc (Nat.le_refl _) o
theorem below_keeps {w w' : World} (hb : Below w.heap.size w w') : ∀ a u, w.cell? a = some u → w'.cell? a = some u := fun a u h => by
  rw [hb.cell (World.block_lt_of_cell? w a h)]; exact h
theorem Ext.agree {w w' : World} (h : Ext w w') (lo : Nat) : Agree lo w.heap.size w w' := Agree.of_below h (Nat.le_refl _)
theorem Ext.cv {W w1 : World} (hb : Ext W w1) {b o : Nat} {v : Value} (h : W.cell? ⟨b, o, none⟩ = some v) : w1.cell? ⟨b, o, none⟩ = some v := below_keeps hb _ _ h
theorem Ext.fz {W w1 : World} (hb : Ext W w1) {b o : Nat} (hl : b < W.heap.size) (h : W.frozen? ⟨b, o, none⟩ = false) : w1.frozen? ⟨b, o, none⟩ = false := by
  rw [hb.frozen (p := ⟨b, o, none⟩) hl]; exact h

/-- Block b holds the cells vs, and none of it is frozen: a box of the call's own. -/
def Box (w : World) (b : Nat) (vs : Array Value) : Prop := (∀ o, w.cell? ⟨b, o, none⟩ = vs[o]?) ∧ ∀ o, w.frozen? ⟨b, o, none⟩ = false
/-- A block of the call's own, behind a call that leaves 'Ext'. -/
theorem Ext.blk {W w1 : World} (hb : Ext W w1) (b : Nat) (vs : Array Value) (hl : b < W.heap.size) (h : (∀ o, W.cell? ⟨b, o, none⟩ = vs[o]?) ∧ ∀ o, W.frozen? ⟨b, o, none⟩ = false) :
    (∀ o, w1.cell? ⟨b, o, none⟩ = vs[o]?) ∧ ∀ o, w1.frozen? ⟨b, o, none⟩ = false :=
  ⟨fun o => (hb.cell (p := ⟨b, o, none⟩) hl).trans (h.1 o), fun o => (hb.frozen (p := ⟨b, o, none⟩) hl).trans (h.2 o)⟩

theorem Below.blk {B : Nat} {W w1 : World} (hb : Below B W w1) (b : Nat) (vs : Array Value) (hl : b < B) (h : (∀ o, W.cell? ⟨b, o, none⟩ = vs[o]?) ∧ ∀ o, W.frozen? ⟨b, o, none⟩ = false) :
    (∀ o, w1.cell? ⟨b, o, none⟩ = vs[o]?) ∧ ∀ o, w1.frozen? ⟨b, o, none⟩ = false :=
  ⟨fun o => (hb.cell (p := ⟨b, o, none⟩) hl).trans (h.1 o), fun o => (hb.frozen (p := ⟨b, o, none⟩) hl).trans (h.2 o)⟩

@[go_sem] theorem nat_lt_add {a b k : Nat} (h : a < b) : (a < b + k) = True := eq_true (Nat.lt_add_right k h)
end Go.Proofs.YtfaljkenmbbbaaaDoor
namespace Go
/-- w with the blocks t behind it, d answers drawn: what a call leaves of which no more is known than that nothing old has turned. -/
def World.ext (w : World) (t : Array Obj) (d : Nat) : World := { w with heap := w.heap ++ t, drawn := d }
end Go
namespace Go.Proofs.YtfaljkenmbbbaaaDoor
open Go.RowKit
set_option linter.unusedSimpArgs false
set_option linter.unusedVariables false
section
variable {w w1 : World} {t : Array Obj} {d : Nat}
theorem Ext.form (h : Ext w w1) : ∃ t d, w1 = w.ext t d := by
  refine ⟨w1.heap.extract w.heap.size w1.heap.size, w1.drawn, ?_⟩
  obtain ⟨h1, h2, h3, h4, h5⟩ := h
  cases w1
  simp only [World.ext, World.mk.injEq, true_and, and_true] at *
  refine ⟨?_, h2, h1, h3⟩
  apply Array.ext_getElem?
  intro i
  by_cases hi : i < w.heap.size
  · rw [h5 i hi, Array.getElem?_append_left hi]
  · rw [Array.getElem?_append_right (by omega), Array.getElem?_extract]
    have e : w.heap.size + (i - w.heap.size) = i := by omega
    rw [e]
    split
    · rfl
    · rw [Array.getElem?_eq_none (by omega)]
@[simp] theorem World.size_ext : (w.ext t d).heap.size = w.heap.size + t.size := by simp [World.ext]
@[simp] theorem World.tape_ext : (w.ext t d).tape = w.tape := rfl
theorem ext_block {k : Nat} (hk : k < w.heap.size) : (w.ext t d).heap[k]? = w.heap[k]? := by
  show (w.heap ++ t)[k]? = _
  rw [Array.getElem?_append_left hk]
theorem ext_tail {k : Nat} (hk : w.heap.size ≤ k) : (w.ext t d).heap[k]? = t[k - w.heap.size]? := by
  show (w.heap ++ t)[k]? = _
  rw [Array.getElem?_append_right hk]
@[go_sem] theorem cell?_ext (n i : Nat) (hn : n < w.heap.size) : (w.ext t d).cell? ⟨n, i, none⟩ = w.cell? ⟨n, i, none⟩ := World.cell?_of_block (ext_block hn)
@[go_sem] theorem frozen?_ext (n i : Nat) (hn : n < w.heap.size) : (w.ext t d).frozen? ⟨n, i, none⟩ = w.frozen? ⟨n, i, none⟩ := World.frozen?_of_block (ext_block hn)
@[go_sem] theorem setCell_ext (n i : Nat) (v : Value) (hn : n < w.heap.size) : (w.ext t d).setCell ⟨n, i, none⟩ v = (w.setCell ⟨n, i, none⟩ v).ext t d := by
  simp only [World.setCell, World.ext, World.mk.injEq, and_true]
  apply Array.ext_getElem?
  intro k
  by_cases hk : k < w.heap.size
  · rw [Array.getElem?_append_left (by simpa using hk), Array.getElem?_modify, Array.getElem?_modify, Array.getElem?_append_left hk]
  · rw [Array.getElem?_append_right (by simpa using Nat.le_of_not_lt hk), Array.getElem?_modify, if_neg (by omega), Array.getElem?_append_right (by omega)]
    simp
@[go_sem] theorem cell?_ext1 (o : Obj) (n i : Nat) (hn : n < w.heap.size) : ((w.ext t d).alloc o).cell? ⟨n, i, none⟩ = w.cell? ⟨n, i, none⟩ := (World.cell?_alloc_lt _ o ⟨n, i, none⟩ (by simp; omega)).trans (cell?_ext n i hn)
@[go_sem] theorem frozen?_ext1 (o : Obj) (n i : Nat) (hn : n < w.heap.size) : ((w.ext t d).alloc o).frozen? ⟨n, i, none⟩ = w.frozen? ⟨n, i, none⟩ := (World.frozen?_alloc_old _ o ⟨n, i, none⟩ (by simp; omega)).trans (frozen?_ext n i hn)
@[go_sem] theorem setCell_ext1 (o : Obj) (n i : Nat) (v : Value) (hn : n < w.heap.size) : ((w.ext t d).alloc o).setCell ⟨n, i, none⟩ v = ((w.setCell ⟨n, i, none⟩ v).ext t d).alloc o := by
  rw [World.setCell_alloc_past o n i v (by simp; omega), setCell_ext n i v hn]
@[go_sem] theorem cell?_ext2 (o o2 : Obj) (n i : Nat) (hn : n < w.heap.size) : (((w.ext t d).alloc o).alloc o2).cell? ⟨n, i, none⟩ = w.cell? ⟨n, i, none⟩ := (World.cell?_alloc_lt _ o2 ⟨n, i, none⟩ (by simp; omega)).trans (cell?_ext1 o n i hn)
@[go_sem] theorem frozen?_ext2 (o o2 : Obj) (n i : Nat) (hn : n < w.heap.size) : (((w.ext t d).alloc o).alloc o2).frozen? ⟨n, i, none⟩ = w.frozen? ⟨n, i, none⟩ := (World.frozen?_alloc_old _ o2 ⟨n, i, none⟩ (by simp; omega)).trans (frozen?_ext1 o n i hn)
@[go_sem] theorem setCell_ext2 (o o2 : Obj) (n i : Nat) (v : Value) (hn : n < w.heap.size) : (((w.ext t d).alloc o).alloc o2).setCell ⟨n, i, none⟩ v = (((w.setCell ⟨n, i, none⟩ v).ext t d).alloc o).alloc o2 := by
  rw [World.setCell_alloc_past o2 n i v (by simp; omega), setCell_ext1 o n i v hn]
@[go_sem] theorem cell?_ext3 (o o2 o3 : Obj) (n i : Nat) (hn : n < w.heap.size) : ((((w.ext t d).alloc o).alloc o2).alloc o3).cell? ⟨n, i, none⟩ = w.cell? ⟨n, i, none⟩ := (World.cell?_alloc_lt _ o3 ⟨n, i, none⟩ (by simp; omega)).trans (cell?_ext2 o o2 n i hn)
@[go_sem] theorem frozen?_ext3 (o o2 o3 : Obj) (n i : Nat) (hn : n < w.heap.size) : ((((w.ext t d).alloc o).alloc o2).alloc o3).frozen? ⟨n, i, none⟩ = w.frozen? ⟨n, i, none⟩ := (World.frozen?_alloc_old _ o3 ⟨n, i, none⟩ (by simp; omega)).trans (frozen?_ext2 o o2 n i hn)
@[go_sem] theorem setCell_ext3 (o o2 o3 : Obj) (n i : Nat) (v : Value) (hn : n < w.heap.size) : ((((w.ext t d).alloc o).alloc o2).alloc o3).setCell ⟨n, i, none⟩ v = ((((w.setCell ⟨n, i, none⟩ v).ext t d).alloc o).alloc o2).alloc o3 := by
  rw [World.setCell_alloc_past o3 n i v (by simp; omega), setCell_ext2 o o2 n i v hn]
@[go_sem] theorem ext_drew : (w.ext t d).drew = w.ext t (d + 1) := rfl
@[go_sem] theorem drew_ext : w.drew.ext t d = w.ext t d := rfl
theorem Below.ext {B : Nat} {a w : World} (h : Below B a w) (hB : B ≤ w.heap.size) (t : Array Obj) (d : Nat) : Below B a (w.ext t d) :=
  h.trans ⟨rfl, rfl, rfl, by simp, fun k hk => ext_block (by omega)⟩
theorem Below.drewN {B : Nat} {a w : World} (h : Below B a w) (n : Nat) : Below B a (w.drewN n) := ⟨h.os, h.tape, h.output, h.size, h.block⟩
@[go_sem] theorem ext_drewN (n : Nat) : (w.ext t d).drewN n = w.ext t (d + n) := rfl
@[go_sem] theorem drewN_ext (n : Nat) : (w.drewN n).ext t d = w.ext t d := rfl
theorem Ext.ext (w : World) (t : Array Obj) (d : Nat) : Ext w (w.ext t d) := Below.ext (Below.refl _ _) (Nat.le_refl _) t d
theorem Ext.ea (w : World) (t : Array Obj) (d : Nat) (o : Obj) : Ext w ((w.ext t d).alloc o) := (Ext.ext w t d).alloc (by simp) o
theorem Ext.form2 (h : Ext (w.ext t d) w1) : ∃ t d, w1 = w.ext t d := Ext.form ((Ext.ext w t d).trans (h.mono (by simp)))
@[go_sem] theorem ext_ext (w : World) (t t2 : Array Obj) (d d2 : Nat) : (w.ext t d).ext t2 d2 = w.ext (t ++ t2) d2 := by simp [World.ext, Array.append_assoc]
theorem Ext.app (w : World) (t t2 : Array Obj) (d d2 : Nat) : Ext (w.ext t d) (w.ext (t ++ t2) d2) := by rw [← ext_ext w t t2 d d2]; exact Ext.ext _ _ _
/-- What lies in the tail hangs on the tail alone. -/
theorem Agree.tail {w w' : World} {t : Array Obj} {d d' lo hi : Nat} (hs : w'.heap.size = w.heap.size) (hl : w.heap.size ≤ lo) : Agree lo hi (w.ext t d) (w'.ext t d') := by
  intro k h1 h2
  rw [ext_tail (by omega), ext_tail (by omega), hs]
end

/-! ### Slices -/

/-- The slice value v has n elements, and shows the cells xs (all its elements' cells, one after the other) in w; they lie in blocks from lo on. -/
def Sl (lo : Nat) (w : World) (v : Value) (n : Nat) (xs : List Value) : Prop :=
  ∃ ad cap, v = .slice ad n cap ∧ n ≤ cap ∧ cap ≤ maxLen ∧ (ad = none → cap = 0) ∧ (∀ x, ad = some x → lo ≤ x.block) ∧
    ∀ j u, xs[j]? = some u → ∃ x, ad = some x ∧ w.cell? (x.add j) = some u

section
variable {lo : Nat} {w w' : World} {v : Value} {n : Nat} {xs : List Value}
theorem Sl.nil (lo : Nat) (w : World) : Sl lo w (.slice none 0 0) 0 [] := ⟨none, 0, rfl, Nat.le_refl _, by simp [maxLen], fun _ => rfl, fun x h => (by cases h), fun j u h => (by simp at h)⟩
theorem Sl.le (h : Sl lo w v n xs) : n ≤ maxLen := by
  obtain ⟨ad, cap, rfl, h1, h2, _⟩ := h; omega
theorem Sl.shape (h : Sl lo w v n xs) : ∃ ad cap, v = .slice ad n cap ∧ n ≤ cap := by
  obtain ⟨ad, cap, rfl, hn, _⟩ := h; exact ⟨ad, cap, rfl, hn⟩
theorem Addr.add_block (x : Addr) (j : Nat) : (x.add j).block = x.block := by unfold Addr.add; split <;> rfl
theorem Sl.agree (h : Sl lo w v n xs) (hc : Agree lo w.heap.size w w') : Sl lo w' v n xs := by
  obtain ⟨ad, cap, rfl, h1, h2, h3, h5, h4⟩ := h
  refine ⟨ad, cap, rfl, h1, h2, h3, h5, fun j u hj => ?_⟩
  obtain ⟨x, hx, hu⟩ := h4 j u hj
  refine ⟨x, hx, ?_⟩
  have hlt := World.block_lt_of_cell? w _ hu
  rw [hc.cell (by rw [Addr.add_block]; exact h5 x hx) hlt]; exact hu
theorem Sl.mono (h : Sl lo w v n xs) (hb : Ext w w') : Sl lo w' v n xs := h.agree (hb.agree lo)
theorem Sl.weak {lo' : Nat} (h : Sl lo w v n xs) (hl : lo' ≤ lo) : Sl lo' w v n xs := by
  obtain ⟨ad, cap, rfl, h1, h2, h3, h5, h4⟩ := h
  exact ⟨ad, cap, rfl, h1, h2, h3, fun x hx => Nat.le_trans hl (h5 x hx), h4⟩
theorem Sl.own {base : Nat} {e : TypeId} {size : Nat} (h : w.ownsRow base e size v n xs) : Sl base w v n xs := by
  obtain ⟨hl, ⟨rfl, rfl⟩ | ⟨g, cap, cur, rfl, hbg, hg, hn, hm, hs, ht⟩⟩ := h
  · have : xs = [] := List.eq_nil_of_length_eq_zero (by simpa using hl)
    subst this; exact Sl.nil _ w
  · refine ⟨_, _, rfl, hn, hm, (by intro h; cases h), (by intro x hx; cases hx; exact hbg), fun j u hj => ⟨_, rfl, ?_⟩⟩
    have hadd : (⟨g, 0, none⟩ : Addr).add j = ⟨g, j, none⟩ := by unfold Addr.add; split <;> simp_all
    rw [hadd, cell_of_row w g j cur e (0, 0) hg]
    have hjl : j < xs.length := (List.getElem?_eq_some_iff.1 hj).1
    rw [← ht, List.getElem?_take, if_pos (by omega)] at hj
    simpa using hj
/-- As a walk wants it: an address that is written out, or nothing to read. -/
theorem Sl.split (h : Sl lo w v n xs) : ∃ ad cap, v = .slice ad n cap ∧ n ≤ cap ∧ cap ≤ maxLen ∧ (ad = none → cap = 0) ∧
    (xs = [] ∨ ∃ b o, ad = some ⟨b, o, none⟩ ∧ b < w.heap.size ∧ ∀ j u, xs[j]? = some u → w.cell? ⟨b, o + j, none⟩ = some u) := by
  obtain ⟨ad, cap, rfl, h1, h2, h3, _, h4⟩ := h
  refine ⟨ad, cap, rfl, h1, h2, h3, ?_⟩
  cases xs with
  | nil => exact .inl rfl
  | cons y ys =>
    obtain ⟨⟨b, o, sp⟩, rfl, hx⟩ := h4 0 y rfl
    have hs : sp = none := by
      cases sp with
      | none => rfl
      | some q => simp [Addr.add, World.cell?] at hx; split at hx <;> simp at hx
    subst hs
    have hlt := World.block_lt_of_cell? w _ hx
    refine .inr ⟨b, o, rfl, by simpa [Addr.add_block] using hlt, fun j u hj => ?_⟩
    obtain ⟨x, hx, hu⟩ := h4 j u hj
    cases hx
    have hadd : (⟨b, o, none⟩ : Addr).add j = ⟨b, o + j, none⟩ := by unfold Addr.add; split <;> simp_all
    rwa [hadd] at hu
/-- An owned row stays owned where the blocks from its base on stay. -/
theorem own_agree {base : Nat} {e : TypeId} {size : Nat} (h : w.ownsRow base e size v n xs) (hc : Agree base w.heap.size w w') : w'.ownsRow base e size v n xs := by
  obtain ⟨hl, hn | ⟨g, cap, cur, rfl, hbg, hg, r⟩⟩ := h
  · exact ⟨hl, .inl hn⟩
  · exact ⟨hl, .inr ⟨g, cap, cur, rfl, hbg, (hc g hbg (Array.getElem?_eq_some_iff.1 hg).1).trans hg, r⟩⟩
theorem own_mono {base : Nat} {e : TypeId} {size : Nat} (h : w.ownsRow base e size v n xs) (hc : Ext w w') : w'.ownsRow base e size v n xs := own_agree h (hc.agree _)
theorem own_weak {base base' : Nat} {e : TypeId} {size : Nat} (h : w.ownsRow base e size v n xs) (hb : base' ≤ base) : w.ownsRow base' e size v n xs := by
  obtain ⟨hl, hn | ⟨g, cap, cur, rfl, hbg, r⟩⟩ := h
  · exact ⟨hl, .inl hn⟩
  · exact ⟨hl, .inr ⟨g, cap, cur, rfl, by omega, r⟩⟩
/-- 'T{}': an empty row of the call's own. -/
theorem own_new (w : World) (lo g : Nat) (e : TypeId) (size : Nat) (hg : g = w.heap.size) (h : lo ≤ w.heap.size) : (w.alloc (.cells #[] e)).ownsRow lo e size (.slice (some ⟨g, 0, none⟩) 0 0) 0 [] := by
  subst hg; exact World.ownsRow_lit w #[] 0 h (Nat.zero_le _) (by simp)
end

/-! ### append -/

/-- So many elements of so many bytes each may be appended. -/
def Fits (n bytes : Nat) : Prop := n * bytes ≤ 140737488355328 ∧ n ≤ maxLen
theorem fits (n bytes : Nat) (h : n ≤ 10000000) (hb : bytes ≤ 100000) : Fits n bytes := by
  have : n * bytes ≤ 10000000 * 100000 := Nat.mul_le_mul h hb
  exact ⟨by omega, by unfold maxLen; omega⟩
/-- The row of an element type in the program's table: its zero value, its cells, its bytes. -/
structure ElemAt (P : Program) (t e : TypeId) (z : Value) (size bytes : Nat) : Prop where
  under : P.underlying t = some (.slice e)
  info : (P.info? e).map (fun i => (i.zero, i.size, i.bytes)) = some (some z, size, bytes)
  zs : z.cells.size = size
  pos : 0 < size

section
variable {P : Program} {ops : Array Oper} {rest : List Oper} {o : Oper} {a : Act} {Q : Exit → Act → World → Prop}
/-- 'append(s, x...)', s nil or the call's own, x whatever slice lies in memory (nil too). -/
theorem wp_append_sl {K : Act → World → Prop} (w : World) (s x : Operand) (t : TypeId) (ho : o.op = .call { callee := .builtin .append, args := #[s, x], argTypes := #[t, t] })
    (base : Nat) (e : TypeId) (z : Value) (size bytes : Nat) (hE : ElemAt P t e z size bytes)
    (v : Value) (n : Nat) (xs : List Value) (hs : a.eval s = v) (hown : w.ownsRow base e size v n xs)
    (lo : Nat) (u : Value) (m : Nat) (news : List Value) (hx : a.eval x = u) (hsl : Sl lo w u m news) (hl : news.length = m * size) (h1 : ∀ u ∈ news, u.oneCell' = true)
    (hf : Fits (n + m) bytes) (hbase : base ≤ w.heap.size)
    (h : ∀ v' w', w'.ownsRow base e size v' (n + m) (xs ++ news) → w.grownBy w' v.ownBlock → Below base w w' → (v' = .slice none 0 0 ↔ v = .slice none 0 0 ∧ m = 0) → K (a.put o.dst v') w') : o.wp P a w K Q := by
  obtain ⟨i, hi, hz, hsize, hby⟩ := info_parts hE.info
  obtain ⟨ad, cap, rfl, g1, g2, g3, _, g4⟩ := hsl
  cases ad with
  | none =>
    have hc := g3 rfl
    subst hc
    have hm : m = 0 := by omega
    subst hm
    have : news = [] := List.eq_nil_of_length_eq_zero (by simpa using hl)
    subst this
    have hrun := run_append_owned_none (P := P) (w := w) base t o.type e i size hE.under hi v n xs hown
    unfold Oper.wp
    simp [execOp, ho, resolve, invoke, builtin, hs, hx, hrun, Result.andThen]
    exact h v w (by simpa using hown) (World.grownBy.refl _ _) (Below.refl _ _) (by simp)
  | some ad =>
    exact wp_append_own w s x t ho base e i z size bytes hE.under hi hz hsize hby hE.zs hE.pos v n xs hs hown ad m cap news hx hl (fun j u hj => by
      obtain ⟨y, hy, hu⟩ := g4 j u hj
      cases hy; exact hu) h1 hf.2 hf.1 hbase (fun v' w' h2 h3 h4 => h v' w' h2 h3 ((Below.refl _ _).grown h3 hbase fun k hk => (hown.lt k hk).1) h4)
/-- The same in a plain region. -/
theorem wpList_append_sl (w : World) (hgd : o.guard = none) (s x : Operand) (t : TypeId) (ho : o.op = .call { callee := .builtin .append, args := #[s, x], argTypes := #[t, t] })
    (base : Nat) (e : TypeId) (z : Value) (size bytes : Nat) (hE : ElemAt P t e z size bytes)
    (v : Value) (n : Nat) (xs : List Value) (hs : a.eval s = v) (hown : w.ownsRow base e size v n xs)
    (lo : Nat) (u : Value) (m : Nat) (news : List Value) (hx : a.eval x = u) (hsl : Sl lo w u m news) (hl : news.length = m * size) (h1 : ∀ u ∈ news, u.oneCell' = true)
    (hf : Fits (n + m) bytes) (hbase : base ≤ w.heap.size)
    (h : ∀ v' w', w'.ownsRow base e size v' (n + m) (xs ++ news) → w.grownBy w' v.ownBlock → Below base w w' → (v' = .slice none 0 0 ↔ v = .slice none 0 0 ∧ m = 0) → wpList P ops Q rest (a.put o.dst v') w') : wpList P ops Q (o :: rest) a w :=
  wpList_plain hgd fun _ hK => wp_append_sl w s x t ho base e z size bytes hE v n xs hs hown lo u m news hx hsl hl h1 hf hbase fun v' w' a b c d => hK _ _ (h v' w' a b c d)
/-- The same at a step of a region that draws its order. -/
theorem step_append_sl {K : Act → World → Prop} {E : Prop} (w : World) (hgd : o.guard = none) (s x : Operand) (t : TypeId) (ho : o.op = .call { callee := .builtin .append, args := #[s, x], argTypes := #[t, t] })
    (base : Nat) (e : TypeId) (z : Value) (size bytes : Nat) (hE : ElemAt P t e z size bytes)
    (v : Value) (n : Nat) (xs : List Value) (hs : a.eval s = v) (hown : w.ownsRow base e size v n xs)
    (lo : Nat) (u : Value) (m : Nat) (news : List Value) (hx : a.eval x = u) (hsl : Sl lo w u m news) (hl : news.length = m * size) (h1 : ∀ u ∈ news, u.oneCell' = true)
    (hf : Fits (n + m) bytes) (hbase : base ≤ w.heap.size)
    (h : ∀ v' w', w'.ownsRow base e size v' (n + m) (xs ++ news) → w.grownBy w' v.ownBlock → Below base w w' → (v' = .slice none 0 0 ↔ v = .slice none 0 0 ∧ m = 0) → K (a.put o.dst v') w') :
    if Region.wanted o (yielded ops a.tmps) = true then Oper.wp P o a w K Q else E := by
  have hw : Region.wanted o (yielded ops a.tmps) = true := by simp [Region.wanted, hgd]
  rw [if_pos hw]
  exact wp_append_sl w s x t ho base e z size bytes hE v n xs hs hown lo u m news hx hsl hl h1 hf hbase h
end

section
variable {P : Program}
@[go_sem] theorem eql_slice_nil (w : World) (t : TypeId) (a : Option Addr) (n c n' c' : Nat) (h : P.underlying t = some (.slice (P.elem t))) :
    (binOp .eql t (.slice a n c) (.slice none n' c')).run P w = .ok (.bool a.isNone) w := Lib.run_eql_slice_nil w t _ a n c n' c' h
@[go_sem] theorem neq_slice_nil (w : World) (t : TypeId) (a : Option Addr) (n c n' c' : Nat) (h : P.underlying t = some (.slice (P.elem t))) :
    (binOp .neq t (.slice a n c) (.slice none n' c')).run P w = .ok (.bool (!a.isNone)) w := run_neq_slice_nil_any w t _ a n c n' c' h
end

/-! ### Bytes -/

/-- The cells of bytes. -/
def u8s (l : List UInt8) : List Value := l.map fun b => .int .u8 b.toNat
theorem u8s_len (l : List UInt8) : (u8s l).length = l.length := by simp [u8s]
theorem u8s_one (l : List UInt8) : ∀ u ∈ u8s l, u.oneCell' = true := by
  intro u hu; obtain ⟨b, _, rfl⟩ := List.mem_map.1 hu; rfl
theorem u8s_app (l m : List UInt8) : u8s (l ++ m) = u8s l ++ u8s m := by simp [u8s]
/-- A []byte that reads as l. -/
def Bs (lo : Nat) (w : World) (v : Value) (l : List UInt8) : Prop := Sl lo w v l.length (u8s l)
section
variable {lo : Nat} {w w' : World} {v : Value} {l : List UInt8}
theorem Bs.mono (h : Bs lo w v l) (hb : Ext w w') : Bs lo w' v l := Sl.mono h hb
theorem Bs.agree (h : Bs lo w v l) (hb : Agree lo w.heap.size w w') : Bs lo w' v l := Sl.agree h hb
theorem Bs.weak {lo' : Nat} (h : Bs lo w v l) (hl : lo' ≤ lo) : Bs lo' w v l := Sl.weak h hl
theorem Bs.nil (lo : Nat) (w : World) : Bs lo w (.slice none 0 0) [] := Sl.nil lo w
theorem Bs.drew (h : Bs lo w v l) : Bs lo w.drew v l := h
theorem Bs.le (h : Bs lo w v l) : l.length ≤ maxLen := Sl.le h
theorem Bs.shape (h : Bs lo w v l) : ∃ ad cap, v = .slice ad l.length cap ∧ l.length ≤ cap := Sl.shape h
/-- 'b[:k]'. -/
theorem Bs.take {ad : Option Addr} {n cap : Nat} (h : Bs lo w (.slice ad n cap) l) (k : Nat) (hk : k ≤ l.length) : Bs lo w (.slice ad k cap) (l.take k) := by
  obtain ⟨ad', cap', e, h1, h2, h3, h5, h4⟩ := h
  cases e
  have hkl : (l.take k).length = k := by simp; omega
  refine ⟨ad, cap, by rw [hkl], by omega, h2, h3, h5, fun j u hj => ?_⟩
  have hj' : (u8s l)[j]? = some u := by
    rw [u8s, List.getElem?_map] at hj ⊢
    rw [List.getElem?_take] at hj
    split at hj
    · exact hj
    · simp at hj
  exact h4 j u hj'
/-- 'b[k:]'. -/
theorem Bs.drop {ad : Option Addr} {n cap : Nat} (h : Bs lo w (.slice ad n cap) l) (k : Nat) (hk : k ≤ l.length) : Bs lo w (.slice (if cap = k then ad else ad.map (·.add k)) (n - k) (cap - k)) (l.drop k) := by
  obtain ⟨ad', cap', e, h1, h2, h3, h5, h4⟩ := h
  cases e
  refine ⟨_, _, by rw [List.length_drop], by rw [List.length_drop]; omega, by omega, ?_, ?_, fun j u hj => ?_⟩
  · intro he
    split at he
    · have := h3 he; omega
    · cases ad with
      | none => have := h3 rfl; omega
      | some x => simp at he
  · intro x hx
    split at hx
    · exact h5 x hx
    · cases ad with
      | none => simp at hx
      | some y => simp at hx; subst hx; rw [Addr.add_block]; exact h5 y rfl
  · have hj' : (u8s l)[k + j]? = some u := by
      rw [u8s, List.getElem?_map] at hj ⊢
      rwa [List.getElem?_drop] at hj
    obtain ⟨x, rfl, hx⟩ := h4 _ u hj'
    have hne : cap ≠ k := by
      have hlt := (List.getElem?_eq_some_iff.1 hj').1
      rw [u8s_len] at hlt; omega
    refine ⟨x.add k, by rw [if_neg hne]; rfl, ?_⟩
    have : (x.add k).add j = x.add (k + j) := by
      unfold Addr.add
      by_cases hk0 : k = 0
      · subst hk0; simp
      · by_cases hj0 : j = 0
        · subst hj0; simp [hk0]
        · have : k + j ≠ 0 := by omega
          simp [hk0, hj0]; omega
    rw [this]; exact hx
/-- 'b[k:]', however the walk has parted on the capacity. -/
theorem Bs.dropAny {ad : Option Addr} {n cap : Nat} (h : Bs lo w (.slice ad n cap) l) (k : Nat) (hk : k ≤ l.length) (ad' : Option Addr) (m c' : Nat) (hm : m = l.length - k)
    (hd : (c' = 0 ∧ m = 0 ∧ ad' = ad) ∨ (ad' = ad.map (·.add k) ∧ c' = cap - k ∧ cap ≠ k) ∨ (k = 0 ∧ ad' = ad ∧ c' = cap)) : Bs lo w (.slice ad' m c') (l.drop k) := by
  rcases hd with ⟨rfl, h0, rfl⟩ | ⟨rfl, rfl, hne⟩ | ⟨rfl, rfl, rfl⟩
  · obtain ⟨ad1, cap1, e, h1, h2, h3, h5, h4⟩ := h
    cases e
    have : l.drop k = [] := List.drop_eq_nil_of_le (by omega)
    rw [this, h0]
    exact ⟨_, 0, rfl, Nat.le_refl _, Nat.zero_le _, fun _ => rfl, h5, fun j u hj => by simp [u8s] at hj⟩
  · have := h.drop k hk
    rw [if_neg hne] at this
    have hn : n = l.length := by obtain ⟨_, _, e, _⟩ := h; cases e; rfl
    rw [hm, ← hn]; exact this
  · have hn : n = l.length := by obtain ⟨_, _, e, _⟩ := h; cases e; rfl
    rw [hm, Nat.sub_zero, ← hn]; exact h
theorem Bs.own {base : Nat} {e : TypeId} (h : w.ownsRow base e 1 v l.length (u8s l)) : Bs base w v l := Sl.own h
end
/-- A block of bytes, made now. -/
theorem Bs.block (w : World) (lo g n c : Nat) (C : Array Value) (e : TypeId) (fr : Nat × Nat) (l : List UInt8) (hg : g = w.heap.size) (hlo : lo ≤ g) (hC : C.toList = u8s l) (hn : n = l.length) (hnc : n ≤ c) (hc : c ≤ maxLen) : Bs lo (w.alloc (.cells C e fr)) (.slice (some ⟨g, 0, none⟩) n c) l := by
  subst hg hn
  refine ⟨_, _, rfl, hnc, hc, (by intro h; cases h), (by intro x hx; cases hx; exact hlo), fun j u hj => ⟨_, rfl, ?_⟩⟩
  have hadd : (⟨w.heap.size, 0, none⟩ : Addr).add j = ⟨w.heap.size, j, none⟩ := by unfold Addr.add; split <;> simp_all
  rw [hadd, World.cell?_alloc_mark, ← Array.getElem?_toList, hC, hj]
section
variable {P : Program}
@[go_sem] theorem conv_bytes_const (w : World) (t e : TypeId) (C : Array Value) (g n c : Nat) (hg : g = w.heap.size) (ht : P.underlying t = some (.slice (P.elem t))) (he : P.elem t = e) (hu : P.underlying e = some (.int .u8)) :
    (convert t t (.slice (some ⟨g, 0, none⟩) n c)).run P (w.alloc (.cells C e)) = .ok (.slice (some ⟨g, 0, none⟩) n c) (w.alloc (.cells C e (C.size, C.size + 1))) := by
  subst hg he; exact Lib.run_convert_bytes_const w t _ C n c ht hu
end
@[go_sem] theorem cell?_alloc_at_mark (w : World) (C : Array Value) (t : TypeId) (fr : Nat × Nat) (n j : Nat) (hn : n = w.heap.size) : (w.alloc (.cells C t fr)).cell? ⟨n, j, none⟩ = C[j]? := by
  subst hn; exact World.cell?_alloc_mark w C t fr j
/-- A []byte that is nil or the call's own, and holds l. -/
def Ob (lo : Nat) (e : TypeId) (w : World) (v : Value) (l : List UInt8) : Prop := w.ownsRow lo e 1 v l.length (u8s l)
section
variable {lo : Nat} {e : TypeId} {w w' : World} {v : Value} {l : List UInt8}
theorem Ob.bs (h : Ob lo e w v l) : Bs lo w v l := Sl.own h
theorem Ob.mono (h : Ob lo e w v l) (hb : Ext w w') : Ob lo e w' v l := own_mono h hb
theorem Ob.agree (h : Ob lo e w v l) (hb : Agree lo w.heap.size w w') : Ob lo e w' v l := own_agree h hb
theorem Ob.weak {lo' : Nat} (h : Ob lo e w v l) (hl : lo' ≤ lo) : Ob lo' e w v l := own_weak h hl
theorem Ob.nil (lo : Nat) (e : TypeId) (w : World) : Ob lo e w (.slice none 0 0) [] := World.ownsRow_nil _ _ _ _
theorem Ob.drew (h : Ob lo e w v l) : Ob lo e w.drew v l := World.ownsRow.drew h
theorem Ob.atd {t : Array Obj} {d : Nat} (h : Ob lo e (w.ext t d) v l) (d' : Nat) : Ob lo e (w.ext t d') v l := h
theorem Bs.atd {t : Array Obj} {d : Nat} (h : Bs lo (w.ext t d) v l) (d' : Nat) : Bs lo (w.ext t d') v l := h
theorem Ob.new (w : World) (lo g : Nat) (e : TypeId) (hg : g = w.heap.size) (h : lo ≤ w.heap.size) : Ob lo e (w.alloc (.cells #[] e)) (.slice (some ⟨g, 0, none⟩) 0 0) [] := own_new w lo g e 1 hg h
/-- The end of a walk: what lies in the tail, in the last world, from a lower block on. -/
theorem Bs.fin {t : Array Obj} {d d' lo' : Nat} {v' : Value} {l' : List UInt8} (h : Bs lo (w.ext t d) v l) (hs : w'.heap.size = w.heap.size) (hl : w.heap.size ≤ lo) (hlo : lo' ≤ lo) (hv : v' = v) (hll : l' = l) : Bs lo' (w'.ext t d') v' l' := by
  subst hv hll; exact (h.agree (Agree.tail hs hl)).weak hlo
theorem Bs.tail {w' : World} {t : Array Obj} {d d' : Nat} (h : Bs lo (w.ext t d) v l) (hs : w'.heap.size = w.heap.size) (hl : w.heap.size ≤ lo) : Bs lo (w'.ext t d') v l := h.agree (Agree.tail hs hl)
theorem Ob.tail {w' : World} {t : Array Obj} {d d' : Nat} (h : Ob lo e (w.ext t d) v l) (hs : w'.heap.size = w.heap.size) (hl : w.heap.size ≤ lo) : Ob lo e (w'.ext t d') v l := h.agree (Agree.tail hs hl)
end
section
variable {P : Program} {ops : Array Oper} {rest : List Oper} {o : Oper} {a : Act} {Q : Exit → Act → World → Prop}
/-- 'append(s, x...)', s a []byte that is nil or the call's own, x a []byte. W: the world of the call's boxes, below which nothing turns. r, n: what comes out, and its length, as the walk spells them. -/
theorem wp_append_bytes {K : Act → World → Prop} (W w : World) (lo' : Nat) (s x : Operand) (t : TypeId) (ho : o.op = .call { callee := .builtin .append, args := #[s, x], argTypes := #[t, t] })
    (e : TypeId) (hE : ElemAt P t e (.int .u8 0) 1 1) (v : Value) (l : List UInt8) (hs : a.eval s = v) (hown : Ob lo' e w v l)
    (lo : Nat) (u : Value) (m : List UInt8) (hx : a.eval x = u) (hsl : Bs lo w u m) (r : List UInt8) (n : Nat) (hr : l ++ m = r) (hn : r.length = n) (hf : n ≤ 10000000) (hW : Ext W w) (hlo : W.heap.size = lo')
    (h : ∀ ad cap t' d', Ob lo' e (W.ext t' d') (.slice ad n cap) r → Below lo' w (W.ext t' d') → K (a.put o.dst (.slice ad n cap)) (W.ext t' d')) : o.wp P a w K Q := by
  subst hr hn hlo
  refine wp_append_sl w s x t ho W.heap.size e (.int .u8 0) 1 1 hE v l.length (u8s l) hs hown lo u m.length (u8s m) hx hsl (by simp [u8s]) (u8s_one m) (fits _ _ (by simpa using hf) (by decide)) hW.size ?_
  intro v' w' h1 _ h3 _
  have h1' : Ob W.heap.size e w' v' (l ++ m) := by unfold Ob; rw [List.length_append, u8s_app]; exact h1
  obtain ⟨ad, cap, rfl, _⟩ := h1'.bs.shape
  obtain ⟨t', d', rfl⟩ := Ext.form (show Ext W w' from hW.trans h3)
  exact h ad cap t' d' h1' h3
theorem wpList_append_bytes (W w : World) (lo' : Nat) (hgd : o.guard = none) (s x : Operand) (t : TypeId) (ho : o.op = .call { callee := .builtin .append, args := #[s, x], argTypes := #[t, t] })
    (e : TypeId) (hE : ElemAt P t e (.int .u8 0) 1 1) (v : Value) (l : List UInt8) (hs : a.eval s = v) (hown : Ob lo' e w v l)
    (lo : Nat) (u : Value) (m : List UInt8) (hx : a.eval x = u) (hsl : Bs lo w u m) (r : List UInt8) (n : Nat) (hr : l ++ m = r) (hn : r.length = n) (hf : n ≤ 10000000) (hW : Ext W w) (hlo : W.heap.size = lo')
    (h : ∀ ad cap t' d', Ob lo' e (W.ext t' d') (.slice ad n cap) r → Below lo' w (W.ext t' d') → wpList P ops Q rest (a.put o.dst (.slice ad n cap)) (W.ext t' d')) : wpList P ops Q (o :: rest) a w :=
  wpList_plain hgd fun _ hK => wp_append_bytes W w lo' s x t ho e hE v l hs hown lo u m hx hsl r n hr hn hf hW hlo fun ad cap t' d' a b => hK _ _ (h ad cap t' d' a b)
theorem step_append_bytes {K : Act → World → Prop} {E : Prop} (W w : World) (lo' : Nat) (hgd : o.guard = none) (s x : Operand) (t : TypeId) (ho : o.op = .call { callee := .builtin .append, args := #[s, x], argTypes := #[t, t] })
    (e : TypeId) (hE : ElemAt P t e (.int .u8 0) 1 1) (v : Value) (l : List UInt8) (hs : a.eval s = v) (hown : Ob lo' e w v l)
    (lo : Nat) (u : Value) (m : List UInt8) (hx : a.eval x = u) (hsl : Bs lo w u m) (r : List UInt8) (n : Nat) (hr : l ++ m = r) (hn : r.length = n) (hf : n ≤ 10000000) (hW : Ext W w) (hlo : W.heap.size = lo')
    (h : ∀ ad cap t' d', Ob lo' e (W.ext t' d') (.slice ad n cap) r → Below lo' w (W.ext t' d') → K (a.put o.dst (.slice ad n cap)) (W.ext t' d')) :
    if Region.wanted o (yielded ops a.tmps) = true then Oper.wp P o a w K Q else E := by
  have hw : Region.wanted o (yielded ops a.tmps) = true := by simp [Region.wanted, hgd]
  rw [if_pos hw]
  exact wp_append_bytes W w lo' s x t ho e hE v l hs hown lo u m hx hsl r n hr hn hf hW hlo h
end
/-- The bytes of cells. -/
def unb (l : List Value) : List UInt8 := l.map fun v => match v with | .int _ n => UInt8.ofNat n.toNat | _ => 0
@[simp, go_sem] theorem unb_len (l : List Value) : (unb l).length = l.length := by simp [unb]
/-- A literal of bytes, made now: the call's own. -/
theorem Ob.block (w : World) (lo g n : Nat) (C : Array Value) (e : TypeId) (l : List UInt8) (hg : g = w.heap.size) (hlo : lo ≤ g) (hC : C.toList = u8s l) (hn : n = l.length) (hm : n ≤ maxLen) : Ob lo e (w.alloc (.cells C e)) (.slice (some ⟨g, 0, none⟩) n n) l := by
  subst hg hn
  have := World.ownsRow_lit (size := 1) (e := e) w C l.length hlo hm (by rw [← Array.length_toList, hC, u8s_len, Nat.mul_one])
  rw [hC] at this
  exact this
theorem Ob.lit (w : World) (lo g n : Nat) (C : List Value) (e : TypeId) (hg : g = w.heap.size) (hlo : lo ≤ g) (hC : C = u8s (unb C)) (hn : n = C.length) (hm : n ≤ maxLen) : Ob lo e (w.alloc (.cells C.toArray e)) (.slice (some ⟨g, 0, none⟩) n n) (unb C) :=
  Ob.block w lo g n C.toArray e (unb C) hg hlo hC (by rw [hn]; simp [unb]) hm
section
variable {P : Program} {ops : Array Oper} {rest : List Oper} {o : Oper} {a : Act} {Q : Exit → Act → World → Prop}
/-- 'append(s, x...)', x a string. -/
theorem wp_append_str {K : Act → World → Prop} (W w : World) (lo' : Nat) (s x : Operand) (t u : TypeId) (ho : o.op = .call { callee := .builtin .append, args := #[s, x], argTypes := #[t, u] })
    (e : TypeId) (hE : ElemAt P t e (.int .u8 0) 1 1) (hu : P.underlying u = some .string) (v : Value) (l : List UInt8) (hs : a.eval s = v) (hown : Ob lo' e w v l)
    (m : ByteArray) (hx : a.eval x = .string m) (r : List UInt8) (n : Nat) (hr : l ++ m.data.toList = r) (hn : r.length = n) (hf : n ≤ 10000000) (hW : Ext W w) (hlo : W.heap.size = lo')
    (h : ∀ ad cap t' d', Ob lo' e (W.ext t' d') (.slice ad n cap) r → Below lo' w (W.ext t' d') → K (a.put o.dst (.slice ad n cap)) (W.ext t' d')) : o.wp P a w K Q := by
  subst hr hn hlo
  obtain ⟨i, hi, hz, hsize, hby⟩ := info_parts hE.info
  have hms : m.data.toList.length = m.size := by rw [Array.length_toList]; rfl
  have hlen : (l ++ m.data.toList).length = l.length + m.size := by rw [List.length_append, hms]
  rw [hlen] at hf
  obtain ⟨v', w', hrun, h1, h3, _⟩ := Lib.run_append_own_string (P := P) w W.heap.size t u o.type e i hE.under hu hi hz hsize hby v l.length (u8s l) hown m (by unfold maxLen; omega) (by omega) hW.size
  have h1' : Ob W.heap.size e w' v' (l ++ m.data.toList) := by
    unfold Ob
    rw [hlen, u8s_app]
    exact h1
  have hb : Below W.heap.size w w' := (Below.refl _ _).grown h3 hW.size fun k hk => (hown.lt k hk).1
  obtain ⟨ad, cap, rfl, _⟩ := h1'.bs.shape
  obtain ⟨t', d', rfl⟩ := Ext.form (show Ext W w' from hW.trans hb)
  unfold Oper.wp
  simp [execOp, ho, resolve, invoke, builtin, hs, hx, hrun, Result.andThen]
  have h2 := h ad cap t' d' h1' hb
  rw [hlen] at h2
  exact h2
theorem wpList_append_str (W w : World) (lo' : Nat) (hgd : o.guard = none) (s x : Operand) (t u : TypeId) (ho : o.op = .call { callee := .builtin .append, args := #[s, x], argTypes := #[t, u] })
    (e : TypeId) (hE : ElemAt P t e (.int .u8 0) 1 1) (hu : P.underlying u = some .string) (v : Value) (l : List UInt8) (hs : a.eval s = v) (hown : Ob lo' e w v l)
    (m : ByteArray) (hx : a.eval x = .string m) (r : List UInt8) (n : Nat) (hr : l ++ m.data.toList = r) (hn : r.length = n) (hf : n ≤ 10000000) (hW : Ext W w) (hlo : W.heap.size = lo')
    (h : ∀ ad cap t' d', Ob lo' e (W.ext t' d') (.slice ad n cap) r → Below lo' w (W.ext t' d') → wpList P ops Q rest (a.put o.dst (.slice ad n cap)) (W.ext t' d')) : wpList P ops Q (o :: rest) a w :=
  wpList_plain hgd fun _ hK => wp_append_str W w lo' s x t u ho e hE hu v l hs hown m hx r n hr hn hf hW hlo fun ad cap t' d' a b => hK _ _ (h ad cap t' d' a b)
theorem step_append_str {K : Act → World → Prop} {E : Prop} (W w : World) (lo' : Nat) (hgd : o.guard = none) (s x : Operand) (t u : TypeId) (ho : o.op = .call { callee := .builtin .append, args := #[s, x], argTypes := #[t, u] })
    (e : TypeId) (hE : ElemAt P t e (.int .u8 0) 1 1) (hu : P.underlying u = some .string) (v : Value) (l : List UInt8) (hs : a.eval s = v) (hown : Ob lo' e w v l)
    (m : ByteArray) (hx : a.eval x = .string m) (r : List UInt8) (n : Nat) (hr : l ++ m.data.toList = r) (hn : r.length = n) (hf : n ≤ 10000000) (hW : Ext W w) (hlo : W.heap.size = lo')
    (h : ∀ ad cap t' d', Ob lo' e (W.ext t' d') (.slice ad n cap) r → Below lo' w (W.ext t' d') → K (a.put o.dst (.slice ad n cap)) (W.ext t' d')) :
    if Region.wanted o (yielded ops a.tmps) = true then Oper.wp P o a w K Q else E := by
  have hw : Region.wanted o (yielded ops a.tmps) = true := by simp [Region.wanted, hgd]
  rw [if_pos hw]
  exact wp_append_str W w lo' s x t u ho e hE hu v l hs hown m hx r n hr hn hf hW hlo h
end
/-- A string out of bytes. -/
def bs (l : List UInt8) : ByteArray := ⟨l.toArray⟩
@[simp, go_sem] theorem bs_toList (l : List UInt8) : (bs l).toList = l := by simp [bs, ByteArray.toList_eq]
@[simp, go_sem] theorem bs_data (l : List UInt8) : (bs l).data.toList = l := by simp [bs]
@[simp, go_sem] theorem bs_size (l : List UInt8) : (bs l).size = l.length := by simp [bs, ByteArray.size]
@[simp, go_sem] theorem bs_append (l m : List UInt8) : bs l ++ bs m = bs (l ++ m) := by
  apply ByteArray.ext; simp [bs, ByteArray.data_append]
theorem bs_of (s : ByteArray) : bs s.data.toList = s := by apply ByteArray.ext; simp [bs]
theorem bs_inj {l m : List UInt8} (h : bs l = bs m) : l = m := by
  have := congrArg (fun s : ByteArray => s.data.toList) h; simpa using this
section
variable {P : Program}
/-- 'string(b)'. -/
theorem run_string_bs (w : World) (lo : Nat) (src dst : TypeId) (v : Value) (l : List UInt8) (e : TypeId) (hs : P.underlying src = some (.slice e)) (he : P.underlying e = some (.int .u8)) (hd : P.underlying dst = some .string) (h : Bs lo w v l) :
    (convert src dst v).run P w = .ok (.string (bs l)) w := by
  obtain ⟨ad, cap, rfl, h1, h2, h3, h4⟩ := Sl.split h
  rcases h4 with h4 | ⟨b, o, rfl, _, hc⟩
  · have hl : l = [] := by simpa [u8s] using h4
    subst hl
    cases ad with
    | none =>
      have := run_convert_bytes_nil (P := P) w src e hs he 0 cap dst hd
      exact this
    | some x =>
      have hl : (loadCells x 0).run P w = .ok (([] : List Int).map (Value.int .u8)).toArray w := run_loadCells_list (P := P) w x [] (fun j v hj => (by simp at hj))
      rw [List.length_nil, run_convert_bytes_string w src dst e _ 0 cap hs he hd, run_bytesToString w x 0 cap [] hl]
      rfl
  · have := run_convert_bytes_arg (P := P) w src e hs he b o l.length cap (l.map fun b => (b.toNat : Int)) (by simp) (fun i hi => by
      have := hc i (.int .u8 l[i].toNat) (by simp [u8s, hi])
      rw [this]; simp [List.getD, hi]) dst hd
    rw [this]
    congr 2
    apply ByteArray.ext
    simp only [strOfNums, bs, List.map_map]
    congr 1
    conv => rhs; rw [← List.map_id l]
    apply List.map_congr_left
    intro b _; simp
end
end Go.Proofs.YtfaljkenmbbbaaaDoor
/- The package variables that the code reads, and what lies there. No program in sight. -/
namespace Go.Proofs.YtfaljkenmbbbaaaDoor
open Go.RowKit
set_option linter.unusedSimpArgs false
set_option linter.unusedVariables false
/-- The blocks below gN are package variables; Gw says what lies there: errors.errorType, the handle of the type error. -/
def gN : Nat := 1
def Gw (w : World) : Prop := w.cell? ⟨0, 0, none⟩ = some (.iface 127 (.agg #[.pointer (some ⟨2, 56, none⟩)]))
theorem Gw.keep {w w' : World} (h : Gw w) (hb : ∀ k, k < gN → w'.heap[k]? = w.heap[k]?) : Gw w' := by
  unfold Gw at *
  rw [World.cell?_of_block (a := ⟨0, 0, none⟩) (hb 0 (by decide))]; exact h
theorem Gw.le {w : World} (h : Gw w) : gN ≤ w.heap.size := World.block_lt_of_cell? w _ h
/-- The package variables are as said, and in none of the blocks of O. -/
def GL (O : Nat → Prop) (w : World) : Prop := (∀ k, k < gN → ¬ O k) ∧ Gw w
theorem GL.mono {O O' : Nat → Prop} {w : World} (h : GL O w) (ho : ∀ k, O' k → O k) : GL O' w := ⟨fun k hk hn => h.1 k hk (ho k hn), h.2⟩
theorem GL.none {w : World} (h : Gw w) : GL (fun _ => False) w := ⟨fun _ _ h => h, h⟩
end Go.Proofs.YtfaljkenmbbbaaaDoor
/- A walk over symbolic memory: what is known of each slot (AV), of each block that the call owns (Hp), and that the rest stays. No program in sight. -/
namespace Go.Proofs.YtfaljkenmbbbaaaDoor
open Go.RowKit
set_option linter.unusedSimpArgs false
set_option linter.unusedVariables false

/-- What is known of a value: all (x), nothing (top), a slice of n elements that shows cells and that nobody writes (sq), the address of such cells (at_), parts; what it is if p holds, else undef (g). -/
inductive AV where
  | x (v : Value)
  | top
  | sq (n : Nat) (cells : List AV)
  | at_ (cells : List AV)
  | agg (cells : List AV)
  | tup (l : List AV)
  | ifc (t : TypeId) (v : AV)
  | g (p : Bool) (v : AV)
  deriving Inhabited
/-- The address ad shows vals, in a block that is not forbidden. -/
def Mem (F : Nat → Prop) (w : World) (ad : Option Addr) (vals : List Value) : Prop :=
  vals = [] ∨ ∃ b o, ad = some ⟨b, o, none⟩ ∧ ¬ F b ∧ ∀ j u, vals[j]? = some u → w.cell? ⟨b, o + j, none⟩ = some u ∧ u.oneCell' = true
mutual
def Den (F : Nat → Prop) (w : World) : AV → Value → Prop
  | .x u, v => v = u
  | .top, _ => True
  | .sq n cells, v => ∃ ad cap vals, v = .slice ad n cap ∧ n ≤ cap ∧ cap ≤ maxLen ∧ (ad = none → cap = 0) ∧ Mem F w ad vals ∧ DenL F w cells vals
  | .at_ cells, v => ∃ b o vals, v = .pointer (some ⟨b, o, none⟩) ∧ Mem F w (some ⟨b, o, none⟩) vals ∧ DenL F w cells vals
  | .agg cells, v => ∃ vals : List Value, v = .agg vals.toArray ∧ DenL F w cells vals
  | .tup l, v => ∃ vals : List Value, v = .tuple vals.toArray ∧ DenL F w l vals
  | .ifc t av, v => ∃ u, v = .iface t u ∧ Den F w av u
  | .g p av, v => (p = true → Den F w av v) ∧ (p = false → v = undef)
def DenL (F : Nat → Prop) (w : World) : List AV → List Value → Prop
  | [], vs => vs = []
  | c :: cs, vs => ∃ u us, vs = u :: us ∧ Den F w c u ∧ DenL F w cs us
end
section
variable {F F' : Nat → Prop} {w w' : World}
theorem DenL.len {l : List AV} : ∀ {vs : List Value}, DenL F w l vs → vs.length = l.length := by
  induction l with
  | nil => intro vs h; rw [DenL] at h; subst h; rfl
  | cons c cs ih => intro vs h; rw [DenL] at h; obtain ⟨u, us, rfl, _, h2⟩ := h; simp [ih h2]
theorem DenL.get {l : List AV} : ∀ {vs : List Value}, DenL F w l vs → ∀ (j : Nat) (av : AV), l[j]? = some av → ∃ u, vs[j]? = some u ∧ Den F w av u := by
  induction l with
  | nil => intro vs h j av hj; simp at hj
  | cons c cs ih =>
    intro vs h j av hj
    rw [DenL] at h; obtain ⟨u, us, rfl, h1, h2⟩ := h
    cases j with
    | zero => simp at hj; subst hj; exact ⟨u, rfl, h1⟩
    | succ j => exact ih h2 j av (by simpa using hj)
theorem DenL.of {l : List AV} : ∀ {vs : List Value}, vs.length = l.length → (∀ (j : Nat) (av : AV) (u : Value), l[j]? = some av → vs[j]? = some u → Den F w av u) → DenL F w l vs := by
  induction l with
  | nil => intro vs h _; rw [DenL]; exact List.eq_nil_of_length_eq_zero h
  | cons c cs ih =>
    intro vs h hj
    cases vs with
    | nil => simp at h
    | cons u us => rw [DenL]; exact ⟨u, us, rfl, hj 0 c u rfl rfl, ih (by simpa using h) fun j av v h1 h2 => hj (j + 1) av v (by simpa using h1) (by simpa using h2)⟩
theorem DenL.get' {l : List AV} {vs : List Value} (h : DenL F w l vs) (j : Nat) (av : AV) (u : Value) (h1 : l[j]? = some av) (h2 : vs[j]? = some u) : Den F w av u := by
  obtain ⟨u', e, hd⟩ := h.get j av h1
  rw [h2] at e; cases e; exact hd
theorem DenL.app {l m : List AV} {vs us : List Value} (h : DenL F w l vs) (k : DenL F w m us) : DenL F w (l ++ m) (vs ++ us) := by
  refine DenL.of (by simp [h.len, k.len]) fun j av u h1 h2 => ?_
  by_cases hj : j < l.length
  · rw [List.getElem?_append_left hj] at h1
    rw [List.getElem?_append_left (by rw [h.len]; exact hj)] at h2
    exact h.get' j av u h1 h2
  · rw [List.getElem?_append_right (by omega)] at h1
    rw [List.getElem?_append_right (by rw [h.len]; omega), h.len] at h2
    exact k.get' _ av u h1 h2
theorem DenL.set {l : List AV} {vs : List Value} (h : DenL F w l vs) (d : Nat) {av : AV} {v : Value} (hd : Den F w av v) : DenL F w (l.set d av) (vs.set d v) := by
  refine DenL.of (by simp [h.len]) fun j a u h1 h2 => ?_
  rw [List.getElem?_set] at h1 h2
  split at h1
  · rename_i e; subst e
    have hl : d < l.length := by split at h1 <;> simp_all
    simp [hl] at h1; subst h1
    simp [h.len, hl] at h2; subst h2; exact hd
  · rename_i e; simp [e] at h2; exact h.get' j a u h1 h2
theorem DenL.drop {l : List AV} {vs : List Value} (h : DenL F w l vs) (k : Nat) : DenL F w (l.drop k) (vs.drop k) := by
  refine DenL.of (by simp [h.len]) fun j a u h1 h2 => ?_
  rw [List.getElem?_drop] at h1 h2; exact h.get' _ a u h1 h2
theorem DenL.take {l : List AV} {vs : List Value} (h : DenL F w l vs) (k : Nat) : DenL F w (l.take k) (vs.take k) := by
  refine DenL.of (by simp [h.len]) fun j a u h1 h2 => ?_
  rw [List.getElem?_take] at h1 h2
  split at h1
  · rename_i e; rw [if_pos e] at h2; exact h.get' _ a u h1 h2
  · cases h1
theorem DenL.exact {l : List Value} : DenL F w (l.map AV.x) l := DenL.of (by simp) fun j av u h1 h2 => by
  rw [List.getElem?_map, h2] at h1; cases h1; rw [Den]
theorem DenL.exact' {l vs : List Value} (h : DenL F w (l.map AV.x) vs) : vs = l := by
  apply List.ext_getElem?
  intro j
  by_cases hj : j < l.length
  · obtain ⟨u, hu, hd⟩ := h.get j (.x l[j]) (by simp [hj])
    rw [Den] at hd; subst hd; rw [hu]; simp [hj]
  · rw [List.getElem?_eq_none (by rw [h.len]; simpa using hj), List.getElem?_eq_none (by omega)]
theorem Mem.conv {ad : Option Addr} {vals : List Value} (h : Mem F w ad vals) (hF : ∀ k, F' k → F k ∨ w.heap.size ≤ k) (hw : ∀ k, k < w.heap.size → ¬ F k → w'.heap[k]? = w.heap[k]?) : Mem F' w' ad vals := by
  rcases h with h | ⟨b, o, rfl, hb, hc⟩
  · exact .inl h
  · cases vals with
    | nil => exact .inl rfl
    | cons v vs =>
      have hlt : b < w.heap.size := World.block_lt_of_cell? w _ (hc 0 v rfl).1
      refine .inr ⟨b, o, rfl, fun hk => ?_, fun j u hj => ⟨?_, (hc j u hj).2⟩⟩
      · rcases hF b hk with h | h
        · exact hb h
        · omega
      · rw [World.cell?_of_block (a := ⟨b, o + j, none⟩) (hw b hlt hb)]; exact (hc j u hj).1
mutual
theorem Den.conv (hF : ∀ k, F' k → F k ∨ w.heap.size ≤ k) (hw : ∀ k, k < w.heap.size → ¬ F k → w'.heap[k]? = w.heap[k]?) : (av : AV) → ∀ v, Den F w av v → Den F' w' av v
  | .x u, v, h => by rw [Den] at h ⊢; exact h
  | .top, v, h => by rw [Den]; trivial
  | .sq n cells, v, h => by
    rw [Den] at h ⊢
    obtain ⟨ad, cap, vals, h1, h2, h3, h4, h5, h6⟩ := h
    exact ⟨ad, cap, vals, h1, h2, h3, h4, h5.conv hF hw, DenL.conv hF hw cells vals h6⟩
  | .at_ cells, v, h => by
    rw [Den] at h ⊢
    obtain ⟨b, o, vals, h1, h5, h6⟩ := h
    exact ⟨b, o, vals, h1, h5.conv hF hw, DenL.conv hF hw cells vals h6⟩
  | .agg cells, v, h => by
    rw [Den] at h ⊢
    obtain ⟨vals, h1, h6⟩ := h
    exact ⟨vals, h1, DenL.conv hF hw cells vals h6⟩
  | .tup cells, v, h => by
    rw [Den] at h ⊢
    obtain ⟨vals, h1, h6⟩ := h
    exact ⟨vals, h1, DenL.conv hF hw cells vals h6⟩
  | .ifc t av, v, h => by
    rw [Den] at h ⊢
    obtain ⟨u, h1, h6⟩ := h
    exact ⟨u, h1, Den.conv hF hw av u h6⟩
  | .g p av, v, h => by
    rw [Den] at h ⊢
    exact ⟨fun hp => Den.conv hF hw av v (h.1 hp), h.2⟩
theorem DenL.conv (hF : ∀ k, F' k → F k ∨ w.heap.size ≤ k) (hw : ∀ k, k < w.heap.size → ¬ F k → w'.heap[k]? = w.heap[k]?) : (l : List AV) → ∀ vs, DenL F w l vs → DenL F' w' l vs
  | [], vs, h => by rw [DenL] at h ⊢; exact h
  | c :: cs, vs, h => by
    rw [DenL] at h ⊢
    obtain ⟨u, us, e, h1, h2⟩ := h
    exact ⟨u, us, e, Den.conv hF hw c u h1, DenL.conv hF hw cs us h2⟩
end
theorem Den.weak (hF : ∀ k, F' k → F k) {av : AV} {v : Value} (h : Den F w av v) : Den F' w av v := Den.conv (fun k hk => .inl (hF k hk)) (fun _ _ _ => rfl) av v h
theorem DenL.weak (hF : ∀ k, F' k → F k) {l : List AV} {vs : List Value} (h : DenL F w l vs) : DenL F' w l vs := DenL.conv (fun k hk => .inl (hF k hk)) (fun _ _ _ => rfl) l vs h
end

theorem Gw.ext {w w' : World} (h : Gw w) (hE : Ext w w') : Gw w' := h.keep fun k hk => hE.block k (Nat.lt_of_lt_of_le hk h.le)

/-! ### The blocks that the call owns -/

/-- A block whose first cells are known and may be written (box); a row that is nil or lies at the head of a block of its own, with n elements, and may be appended to. -/
inductive Hp where
  | box (b : Nat) (cells : List AV)
  | row (ad : Option Addr) (n cap : Nat) (e : TypeId) (size : Nat) (cells : List AV)
def Hp.blk : Hp → Option Nat
  | .box b _ => some b
  | .row ad .. => ad.map (·.block)
def HpOk (F : Nat → Prop) (w : World) : Hp → Prop
  | .box b cells => ∃ vals, DenL F w cells vals ∧ b < w.heap.size ∧ ∀ j u, vals[j]? = some u → w.cell? ⟨b, j, none⟩ = some u ∧ u.oneCell' = true ∧ w.frozen? ⟨b, j, none⟩ = false
  | .row ad n cap e size cells => ∃ vals, DenL F w cells vals ∧ w.ownsRow 0 e size (.slice ad n cap) n vals ∧ ∀ u ∈ vals, u.oneCell' = true
/-- What may not be read as lasting: V, and the blocks of H. -/
def FB (V : Nat → Prop) (H : List Hp) : Nat → Prop := fun k => V k ∨ ∃ h ∈ H, h.blk = some k
def Apart (a b : Hp) : Prop := ∀ k, a.blk = some k → b.blk ≠ some k
structure HOk (V : Nat → Prop) (w : World) (H : List Hp) : Prop where
  ok : ∀ h ∈ H, HpOk (FB V H) w h
  apart : H.Pairwise Apart
  lt : ∀ h ∈ H, ∀ k, h.blk = some k → k < w.heap.size ∧ ¬ V k
/-- w0 with new blocks; of the old ones only those in O may have turned. -/
structure Fr (O : Nat → Prop) (w0 w : World) : Prop where
  os : w.os = w0.os
  tape : w.tape = w0.tape
  output : w.output = w0.output
  size : w0.heap.size ≤ w.heap.size
  block : ∀ k, k < w0.heap.size → ¬ O k → w.heap[k]? = w0.heap[k]?
theorem Fr.refl (O : Nat → Prop) (w : World) : Fr O w w := ⟨rfl, rfl, rfl, Nat.le_refl _, fun _ _ _ => rfl⟩
theorem Fr.trans {O : Nat → Prop} {O' : Nat → Prop} {a b c : World} (h : Fr O a b) (k : Fr O' b c) (ho : ∀ i, i < a.heap.size → O' i → O i) : Fr O a c :=
  ⟨k.os.trans h.os, k.tape.trans h.tape, k.output.trans h.output, Nat.le_trans h.size k.size, fun i hi hn => (k.block i (Nat.lt_of_lt_of_le hi h.size) (fun h' => hn (ho i hi h'))).trans (h.block i hi hn)⟩
theorem Fr.ext {a b : World} (h : Fr (fun _ => False) a b) : Ext a b := ⟨h.os, h.tape, h.output, h.size, fun k hk => h.block k hk (fun x => x)⟩
theorem Ext.fr {a b : World} (h : Ext a b) (O : Nat → Prop) : Fr O a b := ⟨h.os, h.tape, h.output, h.size, fun k hk _ => h.block k hk⟩
def blks (H : List Hp) : Nat → Prop := fun k => ∃ h ∈ H, h.blk = some k
structure Rel (V O : Nat → Prop) (w0 : World) (H : List Hp) (T : List AV) (a : Act) (w : World) : Prop where
  tmps : DenL (FB V H) w T a.tmps.toList
  hok : HOk V w H
  fr : Fr O w0 w
  own : ∀ h ∈ H, ∀ k, h.blk = some k → O k ∨ w0.heap.size ≤ k
  defers : a.defers = []
  vlt : ∀ k, V k → k < w0.heap.size
  gl : GL O w0
section
variable {V O : Nat → Prop} {w0 w w' : World} {H H' : List Hp} {T : List AV} {a : Act}
theorem FB.perm (h : H.Perm H') : ∀ k, FB V H' k → FB V H k := fun k hk => hk.imp id fun ⟨x, hx, e⟩ => ⟨x, h.mem_iff.2 hx, e⟩
theorem HpOk.weak {F F' : Nat → Prop} (hF : ∀ k, F' k → F k) : ∀ {h : Hp}, HpOk F w h → HpOk F' w h
  | .box .., ⟨vals, h1, h2⟩ => ⟨vals, h1.weak hF, h2⟩
  | .row .., ⟨vals, h1, h2⟩ => ⟨vals, h1.weak hF, h2⟩
/-- What is known of a block of the call's own stays, where that block stays, and no lasting one turns. -/
theorem HpOk.conv {F F' : Nat → Prop} (hF : ∀ k, F' k → F k ∨ w.heap.size ≤ k) (hw : ∀ k, k < w.heap.size → ¬ F k → w'.heap[k]? = w.heap[k]?) (hs : w.heap.size ≤ w'.heap.size) :
    ∀ {h : Hp}, HpOk F w h → (∀ k, h.blk = some k → w'.heap[k]? = w.heap[k]?) → HpOk F' w' h
  | .box b cells, ⟨vals, h1, hl, h2⟩, hb => ⟨vals, DenL.conv hF hw _ _ h1, by omega, fun j u hj => by
      have := hb b rfl
      rw [World.cell?_of_block (a := ⟨b, j, none⟩) this, World.frozen?_of_block (a := ⟨b, j, none⟩) this]; exact h2 j u hj⟩
  | .row ad n cap e size cells, ⟨vals, h1, h2, h3⟩, hb => by
      refine ⟨vals, DenL.conv hF hw _ _ h1, ?_, h3⟩
      obtain ⟨hl, hn | ⟨g, cap', cur, e', hbg, hg, r⟩⟩ := h2
      · exact ⟨hl, .inl hn⟩
      · refine ⟨hl, .inr ⟨g, cap', cur, e', hbg, ?_, r⟩⟩
        have : ad = some ⟨g, 0, none⟩ := by injection e'
        rw [hb g (by rw [this]; rfl)]; exact hg
theorem Rel.perm (h : Rel V O w0 H T a w) (hp : H.Perm H') : Rel V O w0 H' T a w where
  tmps := h.tmps.weak (FB.perm hp)
  hok := ⟨fun x hx => (h.hok.ok x (hp.mem_iff.2 hx)).weak (FB.perm hp), hp.pairwise h.hok.apart (fun {a b} hab k hb ha => hab k ha hb), fun x hx => h.hok.lt x (hp.mem_iff.2 hx)⟩
  fr := h.fr
  own := fun x hx => h.own x (hp.mem_iff.2 hx)
  defers := h.defers
  vlt := h.vlt
  gl := h.gl
/-- The package variables, now; no block of the call's own is one. -/
theorem Rel.gw (h : Rel V O w0 H T a w) : Gw w := h.gl.2.keep fun k hk => h.fr.block k (Nat.lt_of_lt_of_le hk h.gl.2.le) (h.gl.1 k hk)
theorem Rel.gb (h : Rel V O w0 H T a w) : GL (blks H) w := ⟨fun k hk ⟨y, hy, e⟩ => by
  rcases h.own y hy k e with h1 | h1
  · exact h.gl.1 k hk h1
  · have := h.gl.2.le; omega, h.gw⟩
/-- A new world in which nothing that is known has turned. -/
theorem Rel.quiet (h : Rel V O w0 H T a w) (hb : Ext w w') : Rel V O w0 H T a w' where
  tmps := DenL.conv (fun k hk => .inl hk) (fun k hk _ => hb.block k hk) _ _ h.tmps
  hok := ⟨fun x hx => (h.hok.ok x hx).conv (fun k hk => .inl hk) (fun k hk _ => hb.block k hk) hb.size (fun k hk => hb.block k (h.hok.lt x hx k hk).1), h.hok.apart,
    fun x hx k hk => ⟨Nat.lt_of_lt_of_le (h.hok.lt x hx k hk).1 hb.size, (h.hok.lt x hx k hk).2⟩⟩
  fr := h.fr.trans (hb.fr (fun _ => False)) (fun _ _ h => h.elim)
  own := h.own
  defers := h.defers
  vlt := h.vlt
  gl := h.gl
def putT (T : List AV) (d : Option Tmp) (av : AV) : List AV := match d with | some d => T.set d av | none => T
theorem Rel.put (h : Rel V O w0 H T a w) (d : Option Tmp) {av : AV} {v : Value} (hd : Den (FB V H) w av v) : Rel V O w0 H (putT T d av) (a.put d v) w where
  tmps := by
    cases d with
    | none => exact h.tmps
    | some d => simp only [putT, Act.put, Array.toList_setIfInBounds]; exact h.tmps.set d hd
  hok := h.hok
  fr := h.fr
  own := h.own
  defers := by cases d <;> exact h.defers
  vlt := h.vlt
  gl := h.gl
/-- A new block of the call's own. -/
theorem Rel.new (h : Rel V O w0 H T a w) (hb : Ext w w') (x : Hp) (hx : ∀ k, x.blk = some k → w.heap.size ≤ k ∧ k < w'.heap.size) (hok : HpOk (FB V (x :: H)) w' x) : Rel V O w0 (x :: H) T a w' where
  tmps := DenL.conv (fun k hk => by
    rcases hk with hk | ⟨y, hy, e⟩
    · exact .inl (.inl hk)
    · rcases List.mem_cons.1 hy with rfl | hy
      · exact .inr (hx k e).1
      · exact .inl (.inr ⟨y, hy, e⟩)) (fun k hk _ => hb.block k hk) _ _ h.tmps
  hok := by
    refine ⟨fun y hy => ?_, List.pairwise_cons.2 ⟨fun y hy k hk e => ?_, h.hok.apart⟩, fun y hy k hk => ?_⟩
    · rcases List.mem_cons.1 hy with rfl | hy
      · exact hok
      · exact (h.hok.ok y hy).conv (fun k hk => by
          rcases hk with hk | ⟨z, hz, e⟩
          · exact .inl (.inl hk)
          · rcases List.mem_cons.1 hz with rfl | hz
            · exact .inr (hx k e).1
            · exact .inl (.inr ⟨z, hz, e⟩)) (fun k hk _ => hb.block k hk) hb.size (fun k hk => hb.block k (h.hok.lt y hy k hk).1)
    · have h1 := (hx k hk).1
      have h2 := (h.hok.lt y hy k e).1
      omega
    · rcases List.mem_cons.1 hy with rfl | hy
      · exact ⟨(hx k hk).2, fun hv => by have h1 := h.vlt k hv; have h2 := h.fr.size; have := (hx k hk).1; omega⟩
      · exact ⟨Nat.lt_of_lt_of_le (h.hok.lt y hy k hk).1 hb.size, (h.hok.lt y hy k hk).2⟩
  fr := h.fr.trans (hb.fr (fun _ => False)) (fun _ _ h => h.elim)
  own := fun y hy k hk => by
    rcases List.mem_cons.1 hy with rfl | hy
    · exact .inr (Nat.le_trans h.fr.size (hx k hk).1)
    · exact h.own y hy k hk
  defers := h.defers
  vlt := h.vlt
  gl := h.gl
/-- A block of the call's own turns: the one at the head of the list. -/
theorem Rel.turn {x y : Hp} (h : Rel V O w0 (x :: H) T a w) (hos : w'.os = w.os) (htp : w'.tape = w.tape) (hout : w'.output = w.output) (hs : w.heap.size ≤ w'.heap.size)
    (hw : ∀ k, k < w.heap.size → x.blk ≠ some k → w'.heap[k]? = w.heap[k]?) (hxy : ∀ k, y.blk = some k → k < w'.heap.size ∧ (x.blk = some k ∨ w.heap.size ≤ k))
    (hok : HpOk (FB V (y :: H)) w' y) (hdrop : ∀ k, x.blk = some k → ¬ (y.blk = some k) → True) : Rel V O w0 (y :: H) T a w' := by
  have hF : ∀ k, FB V (y :: H) k → FB V (x :: H) k ∨ w.heap.size ≤ k := fun k hk => by
    rcases hk with hk | ⟨z, hz, e⟩
    · exact .inl (.inl hk)
    · rcases List.mem_cons.1 hz with rfl | hz
      · rcases (hxy k e).2 with h1 | h1
        · exact .inl (.inr ⟨x, by simp, h1⟩)
        · exact .inr h1
      · exact .inl (.inr ⟨z, by simp [hz], e⟩)
  have hw' : ∀ k, k < w.heap.size → ¬ FB V (x :: H) k → w'.heap[k]? = w.heap[k]? := fun k hk hn => hw k hk fun e => hn (.inr ⟨x, by simp, e⟩)
  have hap := List.pairwise_cons.1 h.hok.apart
  refine ⟨DenL.conv hF hw' _ _ h.tmps, ⟨fun z hz => ?_, List.pairwise_cons.2 ⟨fun z hz k hk e => ?_, hap.2⟩, fun z hz k hk => ?_⟩, ?_, fun z hz k hk => ?_, h.defers, h.vlt, h.gl⟩
  · rcases List.mem_cons.1 hz with rfl | hz
    · exact hok
    · exact (h.hok.ok z (by simp [hz])).conv hF hw' hs fun k hk => hw k (h.hok.lt z (by simp [hz]) k hk).1 fun e => hap.1 z hz k e hk
  · rcases (hxy k hk).2 with h1 | h1
    · exact hap.1 z hz k h1 e
    · have := (h.hok.lt z (by simp [hz]) k e).1; omega
  · rcases List.mem_cons.1 hz with rfl | hz
    · refine ⟨(hxy k hk).1, fun hv => ?_⟩
      rcases (hxy k hk).2 with h1 | h1
      · exact (h.hok.lt x (by simp) k h1).2 hv
      · have h2 := h.vlt k hv; have h3 := h.fr.size; omega
    · exact ⟨Nat.lt_of_lt_of_le (h.hok.lt z (by simp [hz]) k hk).1 hs, (h.hok.lt z (by simp [hz]) k hk).2⟩
  · refine h.fr.trans (O' := fun k => x.blk = some k) ⟨hos, htp, hout, hs, fun k hk hn => hw k hk hn⟩ fun k hk e => ?_
    rcases h.own x (by simp) k e with h1 | h1
    · exact h1
    · omega
  · rcases List.mem_cons.1 hz with rfl | hz
    · rcases (hxy k hk).2 with h1 | h1
      · exact h.own x (by simp) k h1
      · exact .inr (Nat.le_trans h.fr.size h1)
    · exact h.own z (by simp [hz]) k hk
end
end Go.Proofs.YtfaljkenmbbbaaaDoor
