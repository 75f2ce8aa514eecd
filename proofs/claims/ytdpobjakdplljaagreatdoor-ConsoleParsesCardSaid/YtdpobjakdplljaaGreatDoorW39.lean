import Derived.Test.YtdpobjakdplljaaGreatDoorW34
import Derived.WalkKit
import Derived.Lib.Builder
import Derived.Laws.Externs
import Derived.Test.YtdpobjakdplljaaGreatDoorW38
import Derived.Test.YtdpobjakdplljaaGreatDoorW11
import Derived.OwnWalk
import Derived.Test.YtdpobjakdplljaaGreatDoorW13
import Derived.Test.YtdpobjakdplljaaGreatDoorW33
/- strings.Builder at this dump: copyCheck, WriteByte. After the shelf's proofs (their copyCheck has another body where a written Builder lies elsewhere). -/
set_option linter.unusedSimpArgs false
set_option linter.unusedVariables false
namespace Go.Proofs.YtdpobjakdplljaaGreatDoor
open Go.Shelf Go.RowKit
set_option maxHeartbeats 1000000 in
set_option maxRecDepth 100000 in
theorem XrY (b : Nat) (w : World) (h0 : w.cell? ⟨b, 0, none⟩ = some (.pointer (some ⟨b, 0, none⟩))) :
  Calls Tryz.prog 64 #[.pointer (some ⟨b, 0, none⟩)] w fun e w' => e = .returned (.tuple #[]) ∧ w' = w := by
 obtain ⟨j, hj, _⟩ := Option.map_eq_some_iff.1 Xbs.sizeBuilder
 go_enter Tryz.func64, Tryz.ntmps64
 go_wp2
 rw [Lib.run_neq_ptr_same w _ Tryz.underlying72 hj]
 go_wp2
 go_end0
 exact ⟨rfl, rfl⟩
set_option maxHeartbeats 1000000 in
set_option maxRecDepth 100000 in
theorem Xqx (b : Nat) (w : World) (h0 : w.cell? ⟨b, 0, none⟩ = some (.pointer none)) (hsh : w.shape? b = some (74, 2)) (hfz : w.frozen? ⟨b, 0, none⟩ = false) :
  Calls Tryz.prog 64 #[.pointer (some ⟨b, 0, none⟩)] w fun e w' => e = .returned (.tuple #[]) ∧ w' = w.setCell ⟨b, 0, none⟩ (.pointer (some ⟨b, 0, none⟩)) := by
 obtain ⟨j, hj, hjs⟩ := Option.map_eq_some_iff.1 Xbs.sizeBuilder
 go_enter Tryz.func64, Tryz.ntmps64
 go_wp2
 rw [Lib.run_to_unsafe w ⟨b, 0, none⟩ Tryz.underlying72 Tryz.underlying153 hj (by rw [hjs]; decide) hsh (Nat.zero_lt_succ 1)]
 simp only [Result.andThen]
 rw [Oper.upon_value]
 go_wp2
 rw [run_callFunc_extern Tryz.func101 (by kernel_rfl) (by kernel_rfl) (by kernel_rfl) (e := Extern.AbiNoEscape.same) (by kernel_rfl)]
 rw [Lib.run_noEscape]
 simp only [Result.andThen]
 rw [Oper.upon_value]
 go_wp2
 rw [Lib.run_from_unsafe w ⟨b, 0, none⟩ Tryz.underlying153 Tryz.underlying72 hj hsh Xbs.liesBuilder]
 simp only [Result.andThen]
 rw [Oper.upon_value]
 go_wp2
 go_end0
 exact ⟨rfl, rfl⟩
theorem Xtg (B b : Nat) (bs : List Value) (w : World) (h : Lib.IsBuilder 74 5 B b bs w) :
  Calls Tryz.prog 64 #[.pointer (some ⟨b, 0, none⟩)] w fun e w' => e = .returned (.tuple #[]) ∧ (Lib.BuilderAt 74 5 B b (.pointer (some ⟨b, 0, none⟩)) bs w' ∧ Below B w w') := by
 rcases h with h | h
 ·refine (Xqx b w h.cell0 h.shape h.frozen0).mono ?_
  rintro e w' ⟨rfl, rfl⟩
  exact ⟨rfl, h.used _, (Below.refl B w).setCell (p := ⟨b, 0, none⟩) h.1 _⟩
 ·refine (XrY b w h.cell0).mono ?_
  rintro e w' ⟨rfl, rfl⟩
  exact ⟨rfl, h, Below.refl B _⟩
set_option maxHeartbeats 2000000 in
set_option maxRecDepth 100000 in
theorem Xmm (B b : Nat) (bs : List Value) (c : Int) (w : World) (h : Lib.IsBuilder 74 5 B b bs w) (hlen : bs.length + 1 ≤ 140737488355328) (hBw : B ≤ w.heap.size) :
  Calls Tryz.prog 34 #[.pointer (some ⟨b, 0, none⟩), .int .u8 c] w fun e w' => e = .returned .nilIface ∧ (Lib.BuilderAt 74 5 B b (.pointer (some ⟨b, 0, none⟩)) (bs ++ [.int .u8 c]) w' ∧ Below B w w') := by
 obtain ⟨i0, hi, hz0, hz1, hz2⟩ := info_parts Xbs.infoByte
 go_enter Tryz.func34, Tryz.ntmps34
 go_wp2_with (go_at_call 64; refine (Xtg B b bs _ h).mono ?_)
 rintro e w1 ⟨rfl, h1, hb1⟩
 obtain ⟨hB, v, hbk, hown, hne⟩ := h1
 have c0 : w1.cell? ⟨b, 0, none⟩ = some (.pointer (some ⟨b, 0, none⟩)) := by rw [Lib.cell_of_heap hbk]; rfl
 have c1 : w1.cell? ⟨b, 1, none⟩ = some v := by rw [Lib.cell_of_heap hbk]; rfl
 go_wp2_with (at_builtin; refine wpList_append_own _ rfl _ _ 39 rfl B 5 i0 (.int .u8 0) 1 1 Tryz.underlying39 hi hz0 hz1 hz2 rfl (by decide) _ _ _ rfl (hown.alloc _) ⟨w1.heap.size, 0, none⟩ 1 1 [.int .u8 c] rfl rfl ?c1 ?c2 ?c3 ?c4 ?c5 ?_)
 case c1 =>
  intro j u hj
  match j, hj with
  | 0, hj => simp at hj; subst hj; simp [Addr.add]
 case c2 => intro u hu; simp at hu; subst hu; rfl
 case c3 => unfold maxLen; omega
 case c4 => omega
 case c5 => have := hb1.size; simp; omega
 intro v' w2 hown' hgrow _
 have hlt : b < w1.heap.size := by
  rcases Nat.lt_or_ge b w1.heap.size with h' | h'
  ·exact h'
  ·simp [Array.getElem?_eq_none h'] at hbk
 have hb2 : w2.heap[b]? = some (.cells #[.pointer (some ⟨b, 0, none⟩), v] 74 (0, 0)) := by
  rw [hgrow.block b (by simp; omega) (fun e => hne e.symm), Lib.alloc_old w1 _ b hlt]
  exact hbk
 have d0 : w2.cell? ⟨b, 0, none⟩ = some (.pointer (some ⟨b, 0, none⟩)) := by rw [Lib.cell_of_heap hb2]; rfl
 have d1 : w2.cell? ⟨b, 1, none⟩ = some v := by rw [Lib.cell_of_heap hb2]; rfl
 have f1 : w2.frozen? ⟨b, 1, none⟩ = false := Lib.frozen_of_heap hb2 1
 obtain ⟨g, cap, rfl⟩ : ∃ g cap, v' = .slice (some ⟨g, 0, none⟩) (bs.length + 1) cap := by
  rcases hown'.2 with ⟨_, h0⟩ | ⟨g, cap, cur, hv, _⟩
  ·omega
  ·exact ⟨g, cap, hv⟩
 go_wp2
 go_ret
 refine ⟨rfl, ?_, ?_⟩
 ·exact Lib.BuilderAt.put (T := 74) (e := 5) hB hb2 (bs' := bs ++ [.int .u8 c]) (by simpa using hown') Xbs.neB5
 ·exact ((hb1.alloc (by have := hb1.size; omega) _).grown hgrow (by have := hb1.size; simp; omega) (fun k hk => (hown.lt k hk).1)).setCell (p := ⟨b, 1, none⟩) hB _
open Go.RowKit
theorem XiV (l : List UInt8) (hl : l.length ≤ 1000000) (w : World) (hg : Gw w) : Calls Tryz.prog 157 #[.string (bs l)] w fun e w' => e = .returned (.tuple #[.int .u8 ((Xjx l).1.toNat : Nat), .int .i64 ((Xjx l).2 : Nat)]) ∧ Ext w w' := by
 have h0 : Xa2 (fun _ => False) w [.x (.string (bs l))] [.string (bs l)] := Xa2.cons' (Xpd _) Xa2.nil'
 have := Xng l hl (fun _ => False) w [.string (bs l)] (fun _ h => h.elim) ⟨by simp, List.Pairwise.nil, by simp⟩ (h0.weak fun k hk => by rcases hk with hk | ⟨x, hx, _⟩; exact hk; cases hx) (GL.none hg |>.mono fun k ⟨x, hx, _⟩ => by cases hx)
 refine this.mono fun e w' ⟨r, H', v, ⟨hr, _⟩, he, hdv, _, hfr, _⟩ => ?_
 subst hr
 rw [Den] at hdv
 obtain ⟨vals, rfl, hd⟩ := hdv
 have e2 := Xa2.exact' (l := [.int .u8 ((Xjx l).1.toNat : Nat), .int .i64 ((Xjx l).2 : Nat)]) hd
 subst e2
 exact ⟨he, Fr.ext ⟨hfr.os, hfr.tape, hfr.output, hfr.size, fun k hk hn => hfr.block k hk fun ⟨x, hx, _⟩ => by cases hx⟩⟩
theorem XsU {B : Nat} {e : TypeId} {size n : Nat} {v : Value} {bs : List Value} {w w' : World} (h : w.ownsRow B e size v n bs) (hE : Ext w w') : w'.ownsRow B e size v n bs := by
 obtain ⟨h1, h2 | ⟨g, cap, cur, e1, e2, e3, e4, e5, e6, e7⟩⟩ := h
 ·exact ⟨h1, .inl h2⟩
 ·have hlt : g < w.heap.size := (Array.getElem?_eq_some_iff.1 e3).1
  exact ⟨h1, .inr ⟨g, cap, cur, e1, e2, by rw [hE.block g hlt]; exact e3, e4, e5, e6, e7⟩⟩
theorem Xrd {B b : Nat} {p : Value} {bs : List Value} {w w' : World} (h : Lib.BuilderAt 74 5 B b p bs w) (hE : Ext w w') : Lib.BuilderAt 74 5 B b p bs w' := by
 obtain ⟨h1, v, h2, h3, h4⟩ := h
 have hlt : b < w.heap.size := (Array.getElem?_eq_some_iff.1 h2).1
 exact ⟨h1, v, by rw [hE.block b hlt]; exact h2, XsU h3 hE, h4⟩
theorem XtG {B b : Nat} {bs : List Value} {w w' : World} (h : Lib.IsBuilder 74 5 B b bs w) (hE : Ext w w') : Lib.IsBuilder 74 5 B b bs w' := h.imp (Xrd · hE) (Xrd · hE)
def Xiw (x : Option (List UInt8 × Nat)) : Value := match x with | none => .tuple #[.string (bs []), .int .i64 0, .bool false] | some x => .tuple #[.string (bs x.1), .int .i64 ((x.2 : Nat) + 1), .bool true]
set_option maxRecDepth 100000 in
set_option maxHeartbeats 8000000 in
theorem XpU (l : List UInt8) (w : World) (hg : Gw w) (h0 : 0 < l.length) (hl : l.length ≤ 100000) : Calls Tryz.prog 125 #[.string (bs l)] w fun e w' => e = .returned (Xiw (quo (l.drop 1))) ∧ Ext w w' := by
 go_enter Tryz.func125, Tryz.ntmps125
 go_wp2_with fail
 go_loopw [6] (fun i wr => ∃ (k : Nat) (out : List UInt8), 1 ≤ k ∧ k ≤ l.length ∧ i = .int .i64 k ∧ Lib.IsBuilder 74 5 w.heap.size w.heap.size (Lib.byteCells out) wr ∧ Ext w wr ∧ out.length ≤ k ∧ Hid (quo (l.drop 1) = (quo (l.drop k)).map fun x => (out ++ x.1, (k - 1) + x.2))) (fun i _ => l.length - (intOf i).toNat)
 case atStart =>
  refine ⟨1, [], Nat.le_refl _, h0, rfl, .inl ⟨Nat.le_refl _, .slice none 0 0, by unfold World.alloc; exact Array.getElem?_push_size, ⟨rfl, .inl ⟨rfl, rfl⟩⟩, by intro h; cases h⟩, Ext.al _ _, Nat.zero_le _, Lib.hid (by cases quo (l.drop 1) <;> simp)⟩
 case round =>
  obtain ⟨k, out, h1, hk, rfl, hB, hE, hol, hQ⟩ := hrel
  have hz : w.heap.size ≤ wr.heap.size := hE.size
  have hbl : (Lib.byteCells out).length = out.length := by simp [Lib.byteCells]
  by_cases hlt : k < l.length
  ·have hd := Lib.hid (Xcw hlt)
   by_cases h34 : l[k].toNat = 34
   ·have hQ2 : Hid (quo (l.drop 1) = some (out, k)) := Lib.hid (by rw [hQ.out, hd.out, XgN _ _ h34]; simp; omega)
    clear hQ hd
    have b1 : ((l[k].toNat : Int) == 34) = true := by rw [beq_iff_eq]; omega
    go_wp2_with (go_at_call 37; refine (Builder_String_any w.heap.size w.heap.size out _ hB hz).mono ?_; rintro e w1 ⟨rfl, hb1⟩)
    go_ret3
    exact ⟨by rw [hQ2.out]; simp [Xiw, bs], Below.trans hE hb1⟩
   ·have b1 : ((l[k].toNat : Int) == 34) = false := by rw [Xvg]; omega
    by_cases h32 : l[k].toNat < 32
    ·have hQ2 : Hid (quo (l.drop 1) = none) := Lib.hid (by rw [hQ.out, hd.out, Xjj _ _ h34 (by rw [XbZ, if_pos (.inl h32)])]; rfl)
     clear hQ hd
     go_wp2_with fail
     go_ret3
     exact ⟨by rw [hQ2.out]; simp [Xiw, Xco], hE⟩
    ·by_cases h92 : l[k].toNat = 92
     ·cases hes : Xev (l.drop (k + 1)) with
      | none =>
       have hQ2 : Hid (quo (l.drop 1) = none) := Lib.hid (by rw [hQ.out, hd.out, Xjj _ _ h34 (by rw [XbZ, if_neg (by omega), if_neg (by omega), hes]; rfl)]; rfl)
       clear hQ hd
       have b2 : ((l[k].toNat : Int) == 92) = true := by rw [beq_iff_eq]; omega
       go_wp2_with fail
       refine Calls.mono (XiV (l.drop (k + 1)) (by simp; omega) _ (hg.ext hE)) ?_
       rintro e w1 ⟨rfl, hw1⟩
       rw [Xdx hes]
       go_wp2_with fail
       go_ret3
       exact ⟨by rw [hQ2.out]; simp [Xiw, Xco], hE.tr hw1⟩
      | some x =>
       obtain ⟨b, n⟩ := x
       have hle := Xni hes
       rw [List.length_drop] at hle
       have hQ2 : Hid (quo (l.drop 1) = (quo (l.drop (k + (1 + n)))).map fun x => ((out ++ [b]) ++ x.1, (k + (1 + n) - 1) + x.2)) := Lib.hid (by
        rw [hQ.out, hd.out, Xej _ _ b (n + 1) h34 (by rw [XbZ, if_neg (by omega), if_neg (by omega), hes]; rfl), ← hd.out, List.drop_drop, Option.map_map, show k + (n + 1) = k + (1 + n) by omega]
        congr 1
        funext y
        simp only [Function.comp, List.append_assoc, List.singleton_append, Prod.mk.injEq, true_and]
        omega)
       clear hQ hd
       have b2 : ((l[k].toNat : Int) == 92) = true := by rw [beq_iff_eq]; omega
       go_wp2_with fail
       refine Calls.mono (XiV (l.drop (k + 1)) (by simp; omega) _ (hg.ext hE)) ?_
       rintro e w1 ⟨rfl, hw1⟩
       rw [Xd0 hes]
       have hB1 := XtG hB hw1
       have hz1 : w.heap.size ≤ w1.heap.size := Nat.le_trans hz hw1.size
       have b3 : ((n : Int) == 0) = false := by rw [Xvg]; omega
       go_wp2_with (go_at_call 34; refine (Xmm w.heap.size w.heap.size (Lib.byteCells out) b.toNat _ hB1 (by omega) hz1).mono ?_; rintro e w2 ⟨rfl, hB2, hb2⟩)
       have hB3 : Lib.BuilderAt 74 5 w.heap.size w.heap.size (.pointer (some ⟨w.heap.size, 0, none⟩)) (Lib.byteCells (out ++ [b])) w2 := by
        have : Lib.byteCells (out ++ [b]) = Lib.byteCells out ++ [.int .u8 b.toNat] := by simp [Lib.byteCells]
        rw [this]; exact hB2
       go_roundw
       case rel => exact ⟨k + (1 + n), out ++ [b], by omega, by omega, by go_num, .inr hB3, Below.trans (hE.tr hw1) hb2, by simp; omega, hQ2⟩
       case measure => simp [intOf]; omega
     ·have hQ2 : Hid (quo (l.drop 1) = (quo (l.drop (k + 1))).map fun x => ((out ++ [l[k]]) ++ x.1, (k + 1 - 1) + x.2)) := Lib.hid (by
       rw [hQ.out, hd.out, Xej _ _ l[k] 1 h34 (by rw [XbZ, if_neg (by omega), if_pos h92]), List.drop_succ_cons, List.drop_zero, Option.map_map]
       congr 1
       funext y
       simp only [Function.comp, List.append_assoc, List.singleton_append, Prod.mk.injEq, true_and]
       omega)
      clear hQ hd
      have b2 : ((l[k].toNat : Int) == 92) = false := by rw [Xvg]; omega
      go_wp2_with (go_at_call 34; refine (Xmm w.heap.size w.heap.size (Lib.byteCells out) l[k].toNat _ hB (by omega) hz).mono ?_; rintro e w1 ⟨rfl, hB2, hb2⟩)
      have hB3 : Lib.BuilderAt 74 5 w.heap.size w.heap.size (.pointer (some ⟨w.heap.size, 0, none⟩)) (Lib.byteCells (out ++ [l[k]])) w1 := by
       have : Lib.byteCells (out ++ [l[k]]) = Lib.byteCells out ++ [.int .u8 l[k].toNat] := by simp [Lib.byteCells]
       rw [this]; exact hB2
      go_roundw
      case rel => exact ⟨k + 1, out ++ [l[k]], by omega, by omega, by go_num, .inr hB3, Below.trans hE hb2, by simp; omega, hQ2⟩
      case measure => simp [intOf]; omega
  ·have hQ2 : Hid (quo (l.drop 1) = none) := Lib.hid (by rw [hQ.out, List.drop_eq_nil_of_le (by omega), XhS]; rfl)
   clear hQ
   go_wp2_with fail
   go_ret3
   exact ⟨by rw [hQ2.out]; simp [Xiw, Xco], hE⟩
theorem Xph (l : List UInt8) (h0 : 0 < l.length) (hl : l.length ≤ 100000) (H : List Hp) : Xa8 Tryz.prog 125 H [.x (.string (bs l))] (fun r H' => r = .x (Xiw (quo (l.drop 1))) ∧ H' = H) :=
 XgI (args := [.string (bs l)]) (fun w hg => XpU l w hg h0 hl) H
theorem XdN (out : List UInt8) (b : UInt8) : Lib.byteCells out ++ [.int .u8 b.toNat] = Lib.byteCells (out ++ [b]) := by simp [Lib.byteCells]
set_option maxRecDepth 100000 in
set_option maxHeartbeats 8000000 in
theorem XnT (l : List UInt8) (w : World) (h0 : 0 < l.length) (hl : l.length ≤ 100000) : Calls Tryz.prog 126 #[.string (bs l)] w fun e w' => e = .returned (Xiw (sla (l.drop 1))) ∧ Ext w w' := by
 go_enter Tryz.func126, Tryz.ntmps126
 go_wp2_with fail
 go_loopw [6] (fun i wr => ∃ (k : Nat) (out : List UInt8), 1 ≤ k ∧ k ≤ l.length ∧ i = .int .i64 k ∧ Lib.IsBuilder 74 5 w.heap.size w.heap.size (Lib.byteCells out) wr ∧ Ext w wr ∧ out.length ≤ k ∧ Hid (sla (l.drop 1) = (sla (l.drop k)).map fun x => (out ++ x.1, (k - 1) + x.2))) (fun i _ => l.length - (intOf i).toNat)
 case atStart =>
  refine ⟨1, [], Nat.le_refl _, h0, rfl, .inl ⟨Nat.le_refl _, .slice none 0 0, by unfold World.alloc; exact Array.getElem?_push_size, ⟨rfl, .inl ⟨rfl, rfl⟩⟩, by intro h; cases h⟩, Ext.al _ _, Nat.zero_le _, Lib.hid (by cases sla (l.drop 1) <;> simp)⟩
 case round =>
  obtain ⟨k, out, h1, hk, rfl, hB, hE, hol, hQ⟩ := hrel
  have hz : w.heap.size ≤ wr.heap.size := hE.size
  have hbl : (Lib.byteCells out).length = out.length := by simp [Lib.byteCells]
  by_cases hlt : k < l.length
  ·have hd := Lib.hid (Xcw hlt)
   by_cases h47 : l[k].toNat = 47
   ·have hQ2 : Hid (sla (l.drop 1) = some (out, k)) := Lib.hid (by rw [hQ.out, hd.out, Xfw _ _ h47]; simp; omega)
    clear hQ hd
    have b1 : ((l[k].toNat : Int) == 47) = true := by rw [beq_iff_eq]; omega
    go_wp2_with (go_at_call 37; refine (Builder_String_any w.heap.size w.heap.size out _ hB hz).mono ?_; rintro e w1 ⟨rfl, hb1⟩)
    go_ret3
    exact ⟨by rw [hQ2.out]; simp [Xiw, bs], Below.trans hE hb1⟩
   ·have b1 : ((l[k].toNat : Int) == 47) = false := by rw [Xvg]; omega
    by_cases h32 : l[k].toNat < 32
    ·have hQ2 : Hid (sla (l.drop 1) = none) := Lib.hid (by rw [hQ.out, hd.out, Xh6 _ _ h32]; rfl)
     clear hQ hd
     go_wp2_with fail
     go_ret3
     exact ⟨by rw [hQ2.out]; simp [Xiw, Xco], hE⟩
    ·by_cases h92 : l[k].toNat = 92
     ·have b2 : ((l[k].toNat : Int) == 92) = true := by rw [beq_iff_eq]; omega
      by_cases hlt2 : k + 1 < l.length
      ·have hd2 := Lib.hid (Xcw hlt2)
       by_cases hd32 : l[k + 1].toNat < 32
       ·have hQ2 : Hid (sla (l.drop 1) = none) := Lib.hid (by rw [hQ.out, hd.out, hd2.out, XfP _ _ _ h92 hd32]; rfl)
        clear hQ hd hd2
        have b3 : ((k : Int) + 1 == (l.length : Int)) = false := by rw [Xvg]; omega
        go_wp2_with fail
        go_ret3
        exact ⟨by rw [hQ2.out]; simp [Xiw, Xco], hE⟩
       ·by_cases hd47 : l[k + 1].toNat = 47
        ·have hQ2 : Hid (sla (l.drop 1) = (sla (l.drop (k + 2))).map fun x => ((out ++ [l[k + 1]]) ++ x.1, (k + 2 - 1) + x.2)) := Lib.hid (by
          rw [hQ.out, hd.out, hd2.out, Xgl _ _ _ h92 hd47, Option.map_map]
          congr 1
          funext y
          simp only [Function.comp, List.append_assoc, List.singleton_append, Prod.mk.injEq, true_and]
          omega)
         clear hQ hd hd2
         have b3 : ((k : Int) + 1 == (l.length : Int)) = false := by rw [Xvg]; omega
         have b4 : ((l[k + 1].toNat : Int) != 47) = false := by rw [bne_eq_false_iff_eq]; omega
         clear hd47 h92
         go_wp2_with fail
         refine Calls.mono (Xmm w.heap.size w.heap.size (Lib.byteCells out) l[k + 1].toNat _ hB (by omega) hz) ?_
         rintro e w1 ⟨rfl, hB2, hb2⟩
         rw [XdN] at hB2
         go_wp2_with fail
         go_roundw
         case rel => exact ⟨k + 2, out ++ [l[k + 1]], by omega, by omega, by go_num, .inr hB2, Below.trans hE hb2, by simp; omega, hQ2⟩
         case measure => simp [intOf]; omega
        ·have hQ2 : Hid (sla (l.drop 1) = (sla (l.drop (k + 2))).map fun x => ((out ++ [l[k]] ++ [l[k + 1]]) ++ x.1, (k + 2 - 1) + x.2)) := Lib.hid (by
          rw [hQ.out, hd.out, hd2.out, Xf3 _ _ _ h92 (by omega) hd47, Option.map_map]
          congr 1
          funext y
          simp only [Function.comp, List.append_assoc, List.singleton_append, Xva, Xu9, Prod.mk.injEq, true_and]
          omega)
         clear hQ hd hd2
         have b3 : ((k : Int) + 1 == (l.length : Int)) = false := by rw [Xvg]; omega
         have b4 : ((l[k + 1].toNat : Int) != 47) = true := by rw [bne_iff_ne]; omega
         have e92 : Lib.byteCells out ++ [.int .u8 92] = Lib.byteCells (out ++ [l[k]]) := by rw [← XdN, h92]; rfl
         clear hd47 h92
         go_wp2_with fail
         refine Calls.mono (Xmm w.heap.size w.heap.size (Lib.byteCells out) 92 _ hB (by omega) hz) ?_
         rintro e w1 ⟨rfl, hB2, hb2⟩
         rw [e92] at hB2
         have hz1 : w.heap.size ≤ w1.heap.size := Nat.le_trans hz hb2.size
         have hbl1 : (Lib.byteCells (out ++ [l[k]])).length = out.length + 1 := by simp [Lib.byteCells]
         go_wp2_with fail
         refine Calls.mono (Xmm w.heap.size w.heap.size (Lib.byteCells (out ++ [l[k]])) l[k + 1].toNat _ (.inr hB2) (by omega) hz1) ?_
         rintro e w2 ⟨rfl, hB3, hb3⟩
         rw [XdN] at hB3
         go_wp2_with fail
         go_roundw
         case rel => exact ⟨k + 2, out ++ [l[k]] ++ [l[k + 1]], by omega, by omega, by go_num, .inr hB3, Below.trans (Below.trans hE hb2) hb3, by simp; omega, hQ2⟩
         case measure => simp [intOf]; omega
      ·have hQ2 : Hid (sla (l.drop 1) = none) := Lib.hid (by rw [hQ.out, hd.out, List.drop_eq_nil_of_le (by omega), Xf0 _ h92]; rfl)
       clear hQ hd
       have b3 : ((k : Int) + 1 == (l.length : Int)) = true := by rw [beq_iff_eq]; omega
       go_wp2_with fail
       go_ret3
       exact ⟨by rw [hQ2.out]; simp [Xiw, Xco], hE⟩
     ·have hQ2 : Hid (sla (l.drop 1) = (sla (l.drop (k + 1))).map fun x => ((out ++ [l[k]]) ++ x.1, (k + 1 - 1) + x.2)) := Lib.hid (by
       rw [hQ.out, hd.out, Xgq _ _ h47 (by omega) h92, Option.map_map]
       congr 1
       funext y
       simp only [Function.comp, List.append_assoc, List.singleton_append, Prod.mk.injEq, true_and]
       omega)
      clear hQ hd
      have b2 : ((l[k].toNat : Int) == 92) = false := by rw [Xvg]; omega
      go_wp2_with (go_at_call 34; refine (Xmm w.heap.size w.heap.size (Lib.byteCells out) l[k].toNat _ hB (by omega) hz).mono ?_; rintro e w1 ⟨rfl, hB2, hb2⟩)
      rw [XdN] at hB2
      go_roundw
      case rel => exact ⟨k + 1, out ++ [l[k]], by omega, by omega, by go_num, .inr hB2, Below.trans hE hb2, by simp; omega, hQ2⟩
      case measure => simp [intOf]; omega
  ·have hQ2 : Hid (sla (l.drop 1) = none) := Lib.hid (by rw [hQ.out, List.drop_eq_nil_of_le (by omega), Xh1]; rfl)
   clear hQ
   go_wp2_with fail
   go_ret3
   exact ⟨by rw [hQ2.out]; simp [Xiw, Xco], hE⟩
theorem XnC (l : List UInt8) (h0 : 0 < l.length) (hl : l.length ≤ 100000) (H : List Hp) : Xa8 Tryz.prog 126 H [.x (.string (bs l))] (fun r H' => r = .x (Xiw (sla (l.drop 1))) ∧ H' = H) :=
 Xcn (args := [.string (bs l)]) (fun w => XnT l w h0 hl) H
theorem Xdo {P : Program} {o : Oper} {ρ : Operand → AV} {H : List Hp} (t : TypeId) (x : Operand) (lo hi : Option Operand) (l h : Nat) (s : List UInt8) (ho : o.op = .slice t x lo hi none) (hx : ρ x = .x (.string (bs s))) (ht : P.underlying t = some .string)
  (hlo : (lo = none ∧ l = 0) ∨ ∃ y k, lo = some y ∧ ρ y = .x (.int k l)) (hhi : (hi = none ∧ h = s.length) ∨ ∃ y k, hi = some y ∧ ρ y = .x (.int k h)) (h1 : l ≤ h) (h2 : h ≤ s.length) : XlU P o ρ H (.x (.string (bs ((s.take h).drop l)))) := by
 intro V a w r
 have he : (bs s).extract l h = bs ((s.take h).drop l) := by
  apply ByteArray.ext; apply Array.toList_inj.1
  simp [bs, ByteArray.data_extract, List.extract_eq_take_drop, List.drop_take]
 have hrun : ∀ w', (Instr.sliceAt t (.string (bs s)) (lo.map a.eval) (hi.map a.eval) none).run P w' = .ok (.string (bs ((s.take h).drop l))) w' := by
  intro w'
  rw [← he]
  rcases hlo with ⟨rfl, rfl⟩ | ⟨y, k, rfl, hy⟩ <;> rcases hhi with ⟨rfl, rfl⟩ | ⟨z, k', rfl, hz⟩ <;>
   (try rw [Option.map_some, r.evx (by simp [ho, Op.operands]) hy]) <;> (try rw [Option.map_some, r.evx (by simp [ho, Op.operands]) hz]) <;>
   simp [Instr.sliceAt, run_underlying ht, Instr.slice, Instr.sliceBounds, Instr.sliceBound, asIntOf, h1, h2]
 refine ⟨.string (bs ((s.take h).drop l)), fun w' => ?_, by rw [Den]⟩
 simp [execOp, ho, r.evx (by simp [ho, Op.operands]) hx, hrun]
def XmI : Except Int (Int × List UInt8 × Nat) → AV
 | .ok x => .tup [.x (.int .i64 x.1), .x (.string (bs x.2.1)), .x (.int .i64 (x.2.2 : Nat)), .x .nilIface]
 | .error e => .tup [.x (.int .i64 0), .x (.string (bs [])), .x (.int .i64 0), .x (.iface 103 (.int .i64 e))]
set_option maxRecDepth 100000 in
set_option maxHeartbeats 8000000 in
theorem Xmg (c : UInt8) (r : List UInt8) (hl : r.length ≤ 50000) : Xa8 Tryz.prog 84 [] [.x (.string (bs (c :: r)))] (fun q H' => q = XmI (one (c :: r)) ∧ H' = []) := by
 have ht := Xhu c
 have hd := Xgk c
 have hw := Xrb 123 Tryz.f123 Xcq Tryz.func123 (by decide) rfl Xpy (c :: r) (by simp; omega)
 have hg := Xrb 124 Tryz.f124 Xbk Tryz.func124 (by decide) rfl Xgk (c :: r) (by simp; omega)
 have hq := Xph (c :: r) (by simp) (by simp; omega) []
 have hp := XnC (c :: r) (by simp) (by simp; omega) []
 simp only [List.drop_succ_cons, List.drop_zero] at hq hp
 have hwl := Xhb Xcq (c :: r)
 have hgl := Xhb Xbk (c :: r)
 simp only [Xu2] at hwl hgl
 refine XaG Tryz.func84 rfl ?_
 simp only [Tryz.ntmps84, Xu2, Xu5, Xu6, Xu7, Xva, Xu9, Nat.reduceAdd, Nat.reduceSub]
 (repeat' (first | with_reducible (first | refine Xah ?_ | refine Xac ?_ | refine Xan ?_ | refine Xat ?_ | refine Xax ?_ | refine Xae ?_ | refine Xaa ?_ | refine Xaw ?_ | refine Xag ?_ | refine Xav ?_) | (refine Xai _ rfl (fun h => ?_) (fun h => ?_) <;> ((try (simp only [whn] at h)); skip)) | ((first | apply Xad rfl | apply Xa7 _ _ rfl rfl rfl); (case h => ((try (intro (hp : (_ : Bool) = true); ((try simp only [Bool.and_eq_true, Bool.not_eq_true'] at hp); (try simp only [hp, wte]); (try simp only [whn] at hp)))); (first | (apply Xab 0 rfl; (first | exact Xar _ rfl | exact Xao _ rfl)) | (apply Xab 1 rfl; (first | exact Xcz _ _ _ _ _ rfl rfl rfl rfl | exact XcK _ _ _ _ _ rfl rfl rfl rfl)) | (apply Xab 8 rfl; (exact XaS _ _ _ _ _ 0 _ rfl rfl rfl (by kernel_rfl) rfl (by simp; first | done | fail))) | (apply Xab 11 rfl; (first | exact Xaz 121 Tryz.f121 _ _ rfl rfl Tryz.func121 (by decide) rfl (VwL.refl _ _) (ht) | exact Xaz 124 Tryz.f124 _ _ rfl rfl Tryz.func124 (by decide) rfl (VwL.refl _ _) (hd) | exact Xaz 122 Tryz.f122 _ _ rfl rfl Tryz.func122 (by decide) rfl (VwL.refl _ _) (hw) | exact Xaz 122 Tryz.f122 _ _ rfl rfl Tryz.func122 (by decide) rfl (VwL.refl _ _) (hg) | exact Xaz 125 Tryz.f125 _ _ rfl rfl Tryz.func125 (by decide) rfl (VwL.refl _ _) (hq) | exact Xaz 126 Tryz.f126 _ _ rfl rfl Tryz.func126 (by decide) rfl (VwL.refl _ _) (hp))) | (apply XaF; (case hs => (intro _ _ h; cases h)); (case hx => rfl); (case hrun => (intro w; simp [wtb, AV.val, go_sem]; skip; rfl)))))); (case hT => ((try simp only [wtn]); rfl))) | fail))
 ·refine Xfx Xbd ?_
  (first | (apply Xci 0 rfl rfl (by kernel_rfl) (by intro c T H hp; simp [XaP, Xas, XaV, Xbx] at hp); (case h => ((exact Xbh _ rfl)))) | fail); (apply Xcf; (case hT => ((try simp (disch := first | omega | fail) only [wtn, List.drop_zero, Xu3, Xu0, Xu1, Xu4, Xu8, Nat.reduceAdd, Nat.reduceMul, Nat.reduceSub, ↓reduceIte, Nat.reduceEqDiff]); rfl)); (case hH => rfl)); (first | (apply Xci 1 rfl rfl (by kernel_rfl) (by intro c T H hp; simp [XaP, Xas, XaV, Xbx] at hp); (case h => ((exact Xbh _ rfl)))) | fail); (apply Xcf; (case hT => ((try simp (disch := first | omega | fail) only [wtn, List.drop_zero, Xu3, Xu0, Xu1, Xu4, Xu8, Nat.reduceAdd, Nat.reduceMul, Nat.reduceSub, ↓reduceIte, Nat.reduceEqDiff]); rfl)); (case hH => rfl)); (first | (apply Xci 2 rfl rfl (by kernel_rfl) (by intro c T H hp; simp [XaP, Xas, XaV, Xbx] at hp); (case h => (exact Xdo _ _ _ _ _ _ _ rfl rfl (by kernel_rfl) (by first | exact .inl ⟨rfl, rfl⟩ | fail) (by first | exact .inr ⟨_, _, rfl, rfl⟩ | fail) (by simp; done) (by simp; first | omega | fail)))) | fail); (apply Xcf; (case hT => ((try simp (disch := first | omega | fail) only [wtn, List.drop_zero, Xu3, Xu0, Xu1, Xu4, Xu8, Nat.reduceAdd, Nat.reduceMul, Nat.reduceSub, ↓reduceIte, Nat.reduceEqDiff]); rfl)); (case hH => rfl)); (first | (apply Xci 3 rfl rfl (by kernel_rfl) (by intro c T H hp; simp [XaP, Xas, XaV, Xbx] at hp); (case h => ((exact Xbh _ rfl)))) | fail); (apply Xcf; (case hT => ((try simp (disch := first | omega | fail) only [wtn, List.drop_zero, Xu3, Xu0, Xu1, Xu4, Xu8, Nat.reduceAdd, Nat.reduceMul, Nat.reduceSub, ↓reduceIte, Nat.reduceEqDiff]); rfl)); (case hH => rfl))
  refine XjD ?_
  (refine XdR 4 (by decide +kernel) rfl rfl ?_; (first | (apply Xa9; (case h => ((apply Xab 0 rfl; (exact Xao _ rfl)))); (apply Xb0; (case hT => ((try simp only [wtn]); rfl)); (case hH => rfl))) | fail)); (refine XdR 5 (by decide +kernel) rfl rfl ?_; (first | (apply Xa9; (case h => ((apply Xab 0 rfl; (exact Xao _ rfl)))); (apply Xb0; (case hT => ((try simp only [wtn]); rfl)); (case hH => rfl))) | fail)); (refine XdR 6 (by decide +kernel) rfl rfl ?_; (first | (apply Xa9; (case h => ((apply Xab 0 rfl; (exact Xao _ rfl)))); (apply Xb0; (case hT => ((try simp only [wtn]); rfl)); (case hH => rfl))) | fail)); (refine XdR 7 (by decide +kernel) rfl rfl ?_; (first | (apply Xa9; (case h => ((apply Xab 0 rfl; (exact Xao _ rfl)))); (apply Xb0; (case hT => ((try simp only [wtn]); rfl)); (case hH => rfl))) | fail))
  refine Xgv (by decide +kernel) ?_
  (repeat' (first | with_reducible (first | refine Xat ?_ | refine Xaa ?_ | refine Xaw ?_ | refine Xav ?_) | fail))
  rw [Xk6 c r (by assumption)]
  exact Xaf _ _ (Xpo rfl (RV.tmp _) (RV.tmp _) (RV.tmp _) (RV.tmp _) (XaK.mk' [] [] (XuZ _) (XaE.refl _ _) (VwL.refl _ _))) ⟨by (simp only [XmI]; (first | rfl | fail)), rfl⟩
 ·rw [XkK c r (by assumption) (by assumption) (by first | omega | fail)]
  exact Xaf _ _ (Xpo rfl (RV.tmp _) (RV.tmp _) (RV.tmp _) (RV.tmp _) (XaK.mk' [] [] (XuZ _) (XaE.refl _ _) (VwL.refl _ _))) ⟨by (simp only [XmI]; (first | rfl | fail)), rfl⟩
 ·skip
  refine Xfx Xbd ?_
  (first | (apply Xci 0 rfl rfl (by kernel_rfl) (by intro c T H hp; simp [XaP, Xas, XaV, Xbx] at hp); (case h => ((exact Xbh _ rfl)))) | fail); (apply Xcf; (case hT => ((try simp (disch := first | omega | fail) only [wtn, List.drop_zero, Xu3, Xu0, Xu1, Xu4, Xu8, Nat.reduceAdd, Nat.reduceMul, Nat.reduceSub, ↓reduceIte, Nat.reduceEqDiff]); rfl)); (case hH => rfl)); (first | (apply Xci 1 rfl rfl (by kernel_rfl) (by intro c T H hp; simp [XaP, Xas, XaV, Xbx] at hp); (case h => ((exact Xbh _ rfl)))) | fail); (apply Xcf; (case hT => ((try simp (disch := first | omega | fail) only [wtn, List.drop_zero, Xu3, Xu0, Xu1, Xu4, Xu8, Nat.reduceAdd, Nat.reduceMul, Nat.reduceSub, ↓reduceIte, Nat.reduceEqDiff]); rfl)); (case hH => rfl)); (first | (apply Xci 2 rfl rfl (by kernel_rfl) (by intro c T H hp; simp [XaP, Xas, XaV, Xbx] at hp); (case h => (exact Xdo _ _ _ _ _ _ _ rfl rfl (by kernel_rfl) (by first | exact .inl ⟨rfl, rfl⟩ | fail) (by first | exact .inr ⟨_, _, rfl, rfl⟩ | fail) (by simp; done) (by simp; first | omega | fail)))) | fail); (apply Xcf; (case hT => ((try simp (disch := first | omega | fail) only [wtn, List.drop_zero, Xu3, Xu0, Xu1, Xu4, Xu8, Nat.reduceAdd, Nat.reduceMul, Nat.reduceSub, ↓reduceIte, Nat.reduceEqDiff]); rfl)); (case hH => rfl)); (first | (apply Xci 3 rfl rfl (by kernel_rfl) (by intro c T H hp; simp [XaP, Xas, XaV, Xbx] at hp); (case h => ((exact Xbh _ rfl)))) | fail); (apply Xcf; (case hT => ((try simp (disch := first | omega | fail) only [wtn, List.drop_zero, Xu3, Xu0, Xu1, Xu4, Xu8, Nat.reduceAdd, Nat.reduceMul, Nat.reduceSub, ↓reduceIte, Nat.reduceEqDiff]); rfl)); (case hH => rfl))
  refine XjD ?_
  (refine XdR 4 (by decide +kernel) rfl rfl ?_; (first | (apply Xa9; (case h => ((apply Xab 0 rfl; (exact Xao _ rfl)))); (apply Xb0; (case hT => ((try simp only [wtn]); rfl)); (case hH => rfl))) | fail)); (refine XdR 5 (by decide +kernel) rfl rfl ?_; (first | (apply Xa9; (case h => ((apply Xab 0 rfl; (exact Xao _ rfl)))); (apply Xb0; (case hT => ((try simp only [wtn]); rfl)); (case hH => rfl))) | fail)); (refine XdR 6 (by decide +kernel) rfl rfl ?_; (first | (apply Xa9; (case h => ((apply Xab 0 rfl; (exact Xao _ rfl)))); (apply Xb0; (case hT => ((try simp only [wtn]); rfl)); (case hH => rfl))) | fail)); (refine XdR 7 (by decide +kernel) rfl rfl ?_; (first | (apply Xa9; (case h => ((apply Xab 0 rfl; (exact Xao _ rfl)))); (apply Xb0; (case hT => ((try simp only [wtn]); rfl)); (case hH => rfl))) | fail))
  refine Xgv (by decide +kernel) ?_
  (repeat' (first | with_reducible (first | refine Xat ?_ | refine Xaa ?_ | refine Xaw ?_ | refine Xav ?_) | fail))
  rw [Xos c r (by assumption) (by assumption) (by first | omega | fail)]
  exact Xaf _ _ (Xpo rfl (RV.tmp _) (RV.tmp _) (RV.tmp _) (RV.tmp _) (XaK.mk' [] [] (XuZ _) (XaE.refl _ _) (VwL.refl _ _))) ⟨by (simp only [XmI]; (first | rfl | fail)), rfl⟩
 ·skip
  cases hqq : quo r with
  | none =>
   simp only [Xiw]
   (repeat' (first | with_reducible (first | refine Xah ?_ | refine Xac ?_ | refine Xat ?_ | refine Xae ?_ | refine Xaa ?_ | refine Xaw ?_ | refine Xav ?_) | (refine Xai _ rfl (fun h => ?_) (fun h => ?_) <;> first | (exact absurd h (by decide)) | ((try (simp only [] at h)); skip)) | ((apply Xad rfl); (case h => ((first | (apply Xab 0 rfl; (first | exact Xar _ rfl | exact Xao _ rfl)) | (apply XaF; (case hs => (intro _ _ h; cases h)); (case hx => rfl); (case hrun => (intro w; simp [wtb, AV.val, go_sem]; skip; rfl)))))); (case hT => ((try simp only [wtn]); rfl))) | fail))
   rw [XjB c r (by assumption) (by assumption) (by omega)]
   simp only [hqq]
   exact Xaf _ _ (Xpo rfl (RV.tmp _) (RV.tmp _) (RV.tmp _) (RV.tmp _) (XaK.mk' [] [] (XuZ _) (XaE.refl _ _) (VwL.refl _ _))) ⟨by (simp only [XmI]; (first | rfl | fail)), rfl⟩
  | some x =>
   simp only [Xiw]
   (repeat' (first | with_reducible (first | refine Xah ?_ | refine Xac ?_ | refine Xat ?_ | refine Xax ?_ | refine Xae ?_ | refine Xaa ?_ | refine Xaw ?_ | refine Xav ?_) | (refine Xai _ rfl (fun h => ?_) (fun h => ?_) <;> first | (exact absurd h (by decide)) | ((try (simp only [] at h)); skip)) | ((apply Xad rfl); (case h => ((first | (apply Xab 0 rfl; (first | exact Xar _ rfl | exact Xao _ rfl)) | (apply XaF; (case hs => (intro _ _ h; cases h)); (case hx => rfl); (case hrun => (intro w; simp [wtb, AV.val, go_sem]; skip; rfl)))))); (case hT => ((try simp only [wtn]); rfl))) | fail))
   rw [XjB c r (by assumption) (by assumption) (by omega)]
   simp only [hqq]
   exact Xaf _ _ (Xpo rfl (RV.tmp _) (RV.tmp _) (RV.tmp _) (RV.tmp _) (XaK.mk' [] [] (XuZ _) (XaE.refl _ _) (VwL.refl _ _))) ⟨by (simp only [XmI]; (first | rfl | fail)), rfl⟩
 ·cases hqq : sla r with
  | none =>
   simp only [Xiw]
   (repeat' (first | with_reducible (first | refine Xah ?_ | refine Xac ?_ | refine Xat ?_ | refine Xae ?_ | refine Xaa ?_ | refine Xaw ?_ | refine Xav ?_) | (refine Xai _ rfl (fun h => ?_) (fun h => ?_) <;> first | (exact absurd h (by decide)) | ((try (simp only [] at h)); skip)) | ((apply Xad rfl); (case h => ((first | (apply Xab 0 rfl; (first | exact Xar _ rfl | exact Xao _ rfl)) | (apply XaF; (case hs => (intro _ _ h; cases h)); (case hx => rfl); (case hrun => (intro w; simp [wtb, AV.val, go_sem]; skip; rfl)))))); (case hT => ((try simp only [wtn]); rfl))) | fail))
   rw [Xkj c r (by assumption) (by assumption) (by omega)]
   simp only [hqq]
   exact Xaf _ _ (Xpo rfl (RV.tmp _) (RV.tmp _) (RV.tmp _) (RV.tmp _) (XaK.mk' [] [] (XuZ _) (XaE.refl _ _) (VwL.refl _ _))) ⟨by (simp only [XmI]; (first | rfl | fail)), rfl⟩
  | some x =>
   simp only [Xiw]
   (repeat' (first | with_reducible (first | refine Xah ?_ | refine Xac ?_ | refine Xat ?_ | refine Xax ?_ | refine Xae ?_ | refine Xaa ?_ | refine Xaw ?_ | refine Xav ?_) | (refine Xai _ rfl (fun h => ?_) (fun h => ?_) <;> first | (exact absurd h (by decide)) | ((try (simp only [] at h)); skip)) | ((apply Xad rfl); (case h => ((first | (apply Xab 0 rfl; (first | exact Xar _ rfl | exact Xao _ rfl)) | (apply XaF; (case hs => (intro _ _ h; cases h)); (case hx => rfl); (case hrun => (intro w; simp [wtb, AV.val, go_sem]; skip; rfl)))))); (case hT => ((try simp only [wtn]); rfl))) | fail))
   rw [Xkj c r (by assumption) (by assumption) (by omega)]
   simp only [hqq]
   exact Xaf _ _ (Xpo rfl (RV.tmp _) (RV.tmp _) (RV.tmp _) (RV.tmp _) (XaK.mk' [] [] (XuZ _) (XaE.refl _ _) (VwL.refl _ _))) ⟨by (simp only [XmI]; (first | rfl | fail)), rfl⟩
 ·skip
  refine Xfx Xbd ?_
  (first | (apply Xci 0 rfl rfl (by kernel_rfl) (by intro c T H hp; simp [XaP, Xas, XaV, Xbx] at hp); (case h => ((exact Xbh _ rfl)))) | fail); (apply Xcf; (case hT => ((try simp (disch := first | omega | fail) only [wtn, List.drop_zero, Xu3, Xu0, Xu1, Xu4, Xu8, Nat.reduceAdd, Nat.reduceMul, Nat.reduceSub, ↓reduceIte, Nat.reduceEqDiff]); rfl)); (case hH => rfl)); (first | (apply Xci 1 rfl rfl (by kernel_rfl) (by intro c T H hp; simp [XaP, Xas, XaV, Xbx] at hp); (case h => (exact Xdo _ _ _ _ _ _ _ rfl rfl (by kernel_rfl) (by first | exact .inl ⟨rfl, rfl⟩ | fail) (by first | exact .inr ⟨_, _, rfl, rfl⟩ | fail) (by simp; done) (by simp; first | done | fail)))) | fail); (apply Xcf; (case hT => ((try simp (disch := first | omega | fail) only [wtn, List.drop_zero, Xu3, Xu0, Xu1, Xu4, Xu8, Nat.reduceAdd, Nat.reduceMul, Nat.reduceSub, ↓reduceIte, Nat.reduceEqDiff]); rfl)); (case hH => rfl))
  refine XjD ?_
  (refine XdR 2 (by decide +kernel) rfl rfl ?_; (first | (apply Xa9; (case h => ((apply Xab 0 rfl; (exact Xao _ rfl)))); (apply Xb0; (case hT => ((try simp only [wtn]); rfl)); (case hH => rfl))) | fail)); (refine XdR 3 (by decide +kernel) rfl rfl ?_; (first | (apply Xa9; (case h => ((apply Xab 0 rfl; (exact Xao _ rfl)))); (apply Xb0; (case hT => ((try simp only [wtn]); rfl)); (case hH => rfl))) | fail)); (refine XdR 4 (by decide +kernel) rfl rfl ?_; (first | (apply Xa9; (case h => ((apply Xab 0 rfl; (exact Xao _ rfl)))); (apply Xb0; (case hT => ((try simp only [wtn]); rfl)); (case hH => rfl))) | fail)); (refine XdR 5 (by decide +kernel) rfl rfl ?_; (first | (apply Xa9; (case h => ((apply Xab 0 rfl; (exact Xao _ rfl)))); (apply Xb0; (case hT => ((try simp only [wtn]); rfl)); (case hH => rfl))) | fail))
  refine Xgv (by decide +kernel) ?_
  (repeat' (first | with_reducible (first | refine Xat ?_ | refine Xaa ?_ | refine Xaw ?_ | refine Xav ?_) | fail))
  rw [XeX c r (by assumption) (by assumption) (by first | omega | fail)]
  exact Xaf _ _ (Xpo rfl (RV.tmp _) (RV.tmp _) (RV.tmp _) (RV.tmp _) (XaK.mk' [] [] (XuZ _) (XaE.refl _ _) (VwL.refl _ _))) ⟨by (simp only [XmI]; (first | rfl | fail)), rfl⟩
 ·rw [XoE c r (by assumption) (by assumption) (by omega) (by omega) (by first | omega | fail)]
  exact Xaf _ _ (Xpo rfl (RV.tmp _) (RV.tmp _) (RV.tmp _) (RV.tmp _) (XaK.mk' [] [] (XuZ _) (XaE.refl _ _) (VwL.refl _ _))) ⟨by (simp only [XmI]; (first | rfl | fail)), rfl⟩
end Go.Proofs.YtdpobjakdplljaaGreatDoor
