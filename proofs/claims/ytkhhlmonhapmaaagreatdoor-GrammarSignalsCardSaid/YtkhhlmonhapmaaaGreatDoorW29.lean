import Derived.Test.YtkhhlmonhapmaaaGreatDoorW28
import Derived.Test.YtkhhlmonhapmaaaGreatDoorW14
import Derived.OwnWalk
/- The program's lexer: quoted. -/
namespace Go.Proofs.YtkhhlmonhapmaaaGreatDoor
open Go.RowKit
set_option linter.unusedSimpArgs false
set_option linter.unusedVariables false
theorem escaped_c (l : List UInt8) (hl : l.length ≤ 1000000) (w : World) (hg : Gw w) : Calls Tryz.prog 135 #[.string (bs l)] w fun e w' => e = .returned (.tuple #[.int .u8 ((escR l).1.toNat : Nat), .int .i64 ((escR l).2 : Nat)]) ∧ Ext w w' := by
  have h0 : DenL (fun _ => False) w [.x (.string (bs l))] [.string (bs l)] := DenL.cons' (den_x _) DenL.nil'
  have := escaped_s l hl (fun _ => False) w [.string (bs l)] (fun _ h => h.elim) ⟨by simp, List.Pairwise.nil, by simp⟩ (h0.weak fun k hk => by rcases hk with hk | ⟨x, hx, _⟩; exact hk; cases hx) (GL.none hg |>.mono fun k ⟨x, hx, _⟩ => by cases hx)
  refine this.mono fun e w' ⟨r, H', v, ⟨hr, _⟩, he, hdv, _, hfr, _⟩ => ?_
  subst hr
  rw [Den] at hdv
  obtain ⟨vals, rfl, hd⟩ := hdv
  have e2 := DenL.exact' (l := [.int .u8 ((escR l).1.toNat : Nat), .int .i64 ((escR l).2 : Nat)]) hd
  subst e2
  exact ⟨he, Fr.ext ⟨hfr.os, hfr.tape, hfr.output, hfr.size, fun k hk hn => hfr.block k hk fun ⟨x, hx, _⟩ => by cases hx⟩⟩
theorem own_ext {B : Nat} {e : TypeId} {size n : Nat} {v : Value} {bs : List Value} {w w' : World} (h : w.ownsRow B e size v n bs) (hE : Ext w w') : w'.ownsRow B e size v n bs := by
  obtain ⟨h1, h2 | ⟨g, cap, cur, e1, e2, e3, e4, e5, e6, e7⟩⟩ := h
  · exact ⟨h1, .inl h2⟩
  · have hlt : g < w.heap.size := (Array.getElem?_eq_some_iff.1 e3).1
    exact ⟨h1, .inr ⟨g, cap, cur, e1, e2, by rw [hE.block g hlt]; exact e3, e4, e5, e6, e7⟩⟩
theorem at_ext {B b : Nat} {p : Value} {bs : List Value} {w w' : World} (h : Lib.BuilderAt 108 5 B b p bs w) (hE : Ext w w') : Lib.BuilderAt 108 5 B b p bs w' := by
  obtain ⟨h1, v, h2, h3, h4⟩ := h
  have hlt : b < w.heap.size := (Array.getElem?_eq_some_iff.1 h2).1
  exact ⟨h1, v, by rw [hE.block b hlt]; exact h2, own_ext h3 hE, h4⟩
theorem is_ext {B b : Nat} {bs : List Value} {w w' : World} (h : Lib.IsBuilder 108 5 B b bs w) (hE : Ext w w') : Lib.IsBuilder 108 5 B b bs w' := h.imp (at_ext · hE) (at_ext · hE)
def quoR (x : Option (List UInt8 × Nat)) : Value := match x with | none => .tuple #[.string (bs []), .int .i64 0, .bool false] | some x => .tuple #[.string (bs x.1), .int .i64 ((x.2 : Nat) + 1), .bool true]
set_option maxRecDepth 100000 in
set_option maxHeartbeats 8000000 in
theorem quoted_c (l : List UInt8) (w : World) (hg : Gw w) (h0 : 0 < l.length) (hl : l.length ≤ 100000) : Calls Tryz.prog 120 #[.string (bs l)] w fun e w' => e = .returned (quoR (quo (l.drop 1))) ∧ Ext w w' := by
  go_enter Tryz.func120, Tryz.ntmps120
  go_wp2_with fail
  go_loopw [6] (fun i wr => ∃ (k : Nat) (out : List UInt8), 1 ≤ k ∧ k ≤ l.length ∧ i = .int .i64 k ∧ Lib.IsBuilder 108 5 w.heap.size w.heap.size (Lib.byteCells out) wr ∧ Ext w wr ∧ out.length ≤ k ∧ Hid (quo (l.drop 1) = (quo (l.drop k)).map fun x => (out ++ x.1, (k - 1) + x.2))) (fun i _ => l.length - (intOf i).toNat)
  case atStart =>
    refine ⟨1, [], Nat.le_refl _, h0, rfl, .inl ⟨Nat.le_refl _, .slice none 0 0, by unfold World.alloc; exact Array.getElem?_push_size, ⟨rfl, .inl ⟨rfl, rfl⟩⟩, by intro h; cases h⟩, Ext.al _ _, Nat.zero_le _, Lib.hid (by cases quo (l.drop 1) <;> simp)⟩
  case round =>
    obtain ⟨k, out, h1, hk, rfl, hB, hE, hol, hQ⟩ := hrel
    have hz : w.heap.size ≤ wr.heap.size := hE.size
    have hbl : (Lib.byteCells out).length = out.length := by simp [Lib.byteCells]
    by_cases hlt : k < l.length
    · have hd := Lib.hid (drop_cons hlt)
      by_cases h34 : l[k].toNat = 34
      · have hQ2 : Hid (quo (l.drop 1) = some (out, k)) := Lib.hid (by rw [hQ.out, hd.out, quo_end _ _ h34]; simp; omega)
        clear hQ hd
        have b1 : ((l[k].toNat : Int) == 34) = true := by rw [beq_iff_eq]; omega
        go_wp2_with (go_at_call 68; refine (Builder_String_any w.heap.size w.heap.size out _ hB hz).mono ?_; rintro e w1 ⟨rfl, hb1⟩)
        go_ret3
        exact ⟨by rw [hQ2.out]; simp [quoR, bs], Below.trans hE hb1⟩
      · have b1 : ((l[k].toNat : Int) == 34) = false := by rw [beq_eq_false_iff_ne]; omega
        by_cases h32 : l[k].toNat < 32
        · have hQ2 : Hid (quo (l.drop 1) = none) := Lib.hid (by rw [hQ.out, hd.out, quo_no _ _ h34 (by rw [part_cons, if_pos (.inl h32)])]; rfl)
          clear hQ hd
          go_wp2_with fail
          go_ret3
          exact ⟨by rw [hQ2.out]; simp [quoR, bs_nil], hE⟩
        · by_cases h92 : l[k].toNat = 92
          · cases hes : escd (l.drop (k + 1)) with
            | none =>
              have hQ2 : Hid (quo (l.drop 1) = none) := Lib.hid (by rw [hQ.out, hd.out, quo_no _ _ h34 (by rw [part_cons, if_neg (by omega), if_neg (by omega), hes]; rfl)]; rfl)
              clear hQ hd
              have b2 : ((l[k].toNat : Int) == 92) = true := by rw [beq_iff_eq]; omega
              go_wp2_with fail
              refine Calls.mono (escaped_c (l.drop (k + 1)) (by simp; omega) _ (hg.ext hE)) ?_
              rintro e w1 ⟨rfl, hw1⟩
              rw [escR_none hes]
              go_wp2_with fail
              go_ret3
              exact ⟨by rw [hQ2.out]; simp [quoR, bs_nil], hE.tr hw1⟩
            | some x =>
              obtain ⟨b, n⟩ := x
              have hle := escd_le hes
              rw [List.length_drop] at hle
              have hQ2 : Hid (quo (l.drop 1) = (quo (l.drop (k + (1 + n)))).map fun x => ((out ++ [b]) ++ x.1, (k + (1 + n) - 1) + x.2)) := Lib.hid (by
                rw [hQ.out, hd.out, quo_part _ _ b (n + 1) h34 (by rw [part_cons, if_neg (by omega), if_neg (by omega), hes]; rfl), ← hd.out, List.drop_drop, Option.map_map, show k + (n + 1) = k + (1 + n) by omega]
                congr 1
                funext y
                simp only [Function.comp, List.append_assoc, List.singleton_append, Prod.mk.injEq, true_and]
                omega)
              clear hQ hd
              have b2 : ((l[k].toNat : Int) == 92) = true := by rw [beq_iff_eq]; omega
              go_wp2_with fail
              refine Calls.mono (escaped_c (l.drop (k + 1)) (by simp; omega) _ (hg.ext hE)) ?_
              rintro e w1 ⟨rfl, hw1⟩
              rw [escR_some hes]
              have hB1 := is_ext hB hw1
              have hz1 : w.heap.size ≤ w1.heap.size := Nat.le_trans hz hw1.size
              have b3 : ((n : Int) == 0) = false := by rw [beq_eq_false_iff_ne]; omega
              go_wp2_with (go_at_call 130; refine (wbyte w.heap.size w.heap.size (Lib.byteCells out) b.toNat _ hB1 (by omega) hz1).mono ?_; rintro e w2 ⟨rfl, hB2, hb2⟩)
              have hB3 : Lib.BuilderAt 108 5 w.heap.size w.heap.size (.pointer (some ⟨w.heap.size, 0, none⟩)) (Lib.byteCells (out ++ [b])) w2 := by
                have : Lib.byteCells (out ++ [b]) = Lib.byteCells out ++ [.int .u8 b.toNat] := by simp [Lib.byteCells]
                rw [this]; exact hB2
              go_roundw
              case rel => exact ⟨k + (1 + n), out ++ [b], by omega, by omega, by go_num, .inr hB3, Below.trans (hE.tr hw1) hb2, by simp; omega, hQ2⟩
              case measure => simp [intOf]; omega
          · have hQ2 : Hid (quo (l.drop 1) = (quo (l.drop (k + 1))).map fun x => ((out ++ [l[k]]) ++ x.1, (k + 1 - 1) + x.2)) := Lib.hid (by
              rw [hQ.out, hd.out, quo_part _ _ l[k] 1 h34 (by rw [part_cons, if_neg (by omega), if_pos h92]), List.drop_succ_cons, List.drop_zero, Option.map_map]
              congr 1
              funext y
              simp only [Function.comp, List.append_assoc, List.singleton_append, Prod.mk.injEq, true_and]
              omega)
            clear hQ hd
            have b2 : ((l[k].toNat : Int) == 92) = false := by rw [beq_eq_false_iff_ne]; omega
            go_wp2_with (go_at_call 130; refine (wbyte w.heap.size w.heap.size (Lib.byteCells out) l[k].toNat _ hB (by omega) hz).mono ?_; rintro e w1 ⟨rfl, hB2, hb2⟩)
            have hB3 : Lib.BuilderAt 108 5 w.heap.size w.heap.size (.pointer (some ⟨w.heap.size, 0, none⟩)) (Lib.byteCells (out ++ [l[k]])) w1 := by
              have : Lib.byteCells (out ++ [l[k]]) = Lib.byteCells out ++ [.int .u8 l[k].toNat] := by simp [Lib.byteCells]
              rw [this]; exact hB2
            go_roundw
            case rel => exact ⟨k + 1, out ++ [l[k]], by omega, by omega, by go_num, .inr hB3, Below.trans hE hb2, by simp; omega, hQ2⟩
            case measure => simp [intOf]; omega
    · have hQ2 : Hid (quo (l.drop 1) = none) := Lib.hid (by rw [hQ.out, List.drop_eq_nil_of_le (by omega), quo_nil]; rfl)
      clear hQ
      go_wp2_with fail
      go_ret3
      exact ⟨by rw [hQ2.out]; simp [quoR, bs_nil], hE⟩
theorem quoted_s (l : List UInt8) (h0 : 0 < l.length) (hl : l.length ≤ 100000) (H : List Hp) : Spec Tryz.prog 120 H [.x (.string (bs l))] (fun r H' => r = .x (quoR (quo (l.drop 1))) ∧ H' = H) :=
  Spec_callsG (args := [.string (bs l)]) (fun w hg => quoted_c l w hg h0 hl) H
end Go.Proofs.YtkhhlmonhapmaaaGreatDoor
/- The program's lexer: pattern. -/
namespace Go.Proofs.YtkhhlmonhapmaaaGreatDoor
open Go.RowKit
set_option linter.unusedSimpArgs false
set_option linter.unusedVariables false
theorem bcells_snoc (out : List UInt8) (b : UInt8) : Lib.byteCells out ++ [.int .u8 b.toNat] = Lib.byteCells (out ++ [b]) := by simp [Lib.byteCells]
set_option maxRecDepth 100000 in
set_option maxHeartbeats 8000000 in
theorem pattern_c (l : List UInt8) (w : World) (h0 : 0 < l.length) (hl : l.length ≤ 100000) : Calls Tryz.prog 121 #[.string (bs l)] w fun e w' => e = .returned (quoR (sla (l.drop 1))) ∧ Ext w w' := by
  go_enter Tryz.func121, Tryz.ntmps121
  go_wp2_with fail
  go_loopw [6] (fun i wr => ∃ (k : Nat) (out : List UInt8), 1 ≤ k ∧ k ≤ l.length ∧ i = .int .i64 k ∧ Lib.IsBuilder 108 5 w.heap.size w.heap.size (Lib.byteCells out) wr ∧ Ext w wr ∧ out.length ≤ k ∧ Hid (sla (l.drop 1) = (sla (l.drop k)).map fun x => (out ++ x.1, (k - 1) + x.2))) (fun i _ => l.length - (intOf i).toNat)
  case atStart =>
    refine ⟨1, [], Nat.le_refl _, h0, rfl, .inl ⟨Nat.le_refl _, .slice none 0 0, by unfold World.alloc; exact Array.getElem?_push_size, ⟨rfl, .inl ⟨rfl, rfl⟩⟩, by intro h; cases h⟩, Ext.al _ _, Nat.zero_le _, Lib.hid (by cases sla (l.drop 1) <;> simp)⟩
  case round =>
    obtain ⟨k, out, h1, hk, rfl, hB, hE, hol, hQ⟩ := hrel
    have hz : w.heap.size ≤ wr.heap.size := hE.size
    have hbl : (Lib.byteCells out).length = out.length := by simp [Lib.byteCells]
    by_cases hlt : k < l.length
    · have hd := Lib.hid (drop_cons hlt)
      by_cases h47 : l[k].toNat = 47
      · have hQ2 : Hid (sla (l.drop 1) = some (out, k)) := Lib.hid (by rw [hQ.out, hd.out, sla_end _ _ h47]; simp; omega)
        clear hQ hd
        have b1 : ((l[k].toNat : Int) == 47) = true := by rw [beq_iff_eq]; omega
        go_wp2_with (go_at_call 68; refine (Builder_String_any w.heap.size w.heap.size out _ hB hz).mono ?_; rintro e w1 ⟨rfl, hb1⟩)
        go_ret3
        exact ⟨by rw [hQ2.out]; simp [quoR, bs], Below.trans hE hb1⟩
      · have b1 : ((l[k].toNat : Int) == 47) = false := by rw [beq_eq_false_iff_ne]; omega
        by_cases h32 : l[k].toNat < 32
        · have hQ2 : Hid (sla (l.drop 1) = none) := Lib.hid (by rw [hQ.out, hd.out, sla_bad _ _ h32]; rfl)
          clear hQ hd
          go_wp2_with fail
          go_ret3
          exact ⟨by rw [hQ2.out]; simp [quoR, bs_nil], hE⟩
        · by_cases h92 : l[k].toNat = 92
          · have b2 : ((l[k].toNat : Int) == 92) = true := by rw [beq_iff_eq]; omega
            by_cases hlt2 : k + 1 < l.length
            · have hd2 := Lib.hid (drop_cons hlt2)
              by_cases hd32 : l[k + 1].toNat < 32
              · have hQ2 : Hid (sla (l.drop 1) = none) := Lib.hid (by rw [hQ.out, hd.out, hd2.out, sla_bad2 _ _ _ h92 hd32]; rfl)
                clear hQ hd hd2
                have b3 : ((k : Int) + 1 == (l.length : Int)) = false := by rw [beq_eq_false_iff_ne]; omega
                go_wp2_with fail
                go_ret3
                exact ⟨by rw [hQ2.out]; simp [quoR, bs_nil], hE⟩
              · by_cases hd47 : l[k + 1].toNat = 47
                · have hQ2 : Hid (sla (l.drop 1) = (sla (l.drop (k + 2))).map fun x => ((out ++ [l[k + 1]]) ++ x.1, (k + 2 - 1) + x.2)) := Lib.hid (by
                    rw [hQ.out, hd.out, hd2.out, sla_esc _ _ _ h92 hd47, Option.map_map]
                    congr 1
                    funext y
                    simp only [Function.comp, List.append_assoc, List.singleton_append, Prod.mk.injEq, true_and]
                    omega)
                  clear hQ hd hd2
                  have b3 : ((k : Int) + 1 == (l.length : Int)) = false := by rw [beq_eq_false_iff_ne]; omega
                  have b4 : ((l[k + 1].toNat : Int) != 47) = false := by rw [bne_eq_false_iff_eq]; omega
                  clear hd47 h92
                  go_wp2_with fail
                  refine Calls.mono (wbyte w.heap.size w.heap.size (Lib.byteCells out) l[k + 1].toNat _ hB (by omega) hz) ?_
                  rintro e w1 ⟨rfl, hB2, hb2⟩
                  rw [bcells_snoc] at hB2
                  go_wp2_with fail
                  go_roundw
                  case rel => exact ⟨k + 2, out ++ [l[k + 1]], by omega, by omega, by go_num, .inr hB2, Below.trans hE hb2, by simp; omega, hQ2⟩
                  case measure => simp [intOf]; omega
                · have hQ2 : Hid (sla (l.drop 1) = (sla (l.drop (k + 2))).map fun x => ((out ++ [l[k]] ++ [l[k + 1]]) ++ x.1, (k + 2 - 1) + x.2)) := Lib.hid (by
                    rw [hQ.out, hd.out, hd2.out, sla_two _ _ _ h92 (by omega) hd47, Option.map_map]
                    congr 1
                    funext y
                    simp only [Function.comp, List.append_assoc, List.singleton_append, List.cons_append, List.nil_append, Prod.mk.injEq, true_and]
                    omega)
                  clear hQ hd hd2
                  have b3 : ((k : Int) + 1 == (l.length : Int)) = false := by rw [beq_eq_false_iff_ne]; omega
                  have b4 : ((l[k + 1].toNat : Int) != 47) = true := by rw [bne_iff_ne]; omega
                  have e92 : Lib.byteCells out ++ [.int .u8 92] = Lib.byteCells (out ++ [l[k]]) := by rw [← bcells_snoc, h92]; rfl
                  clear hd47 h92
                  go_wp2_with fail
                  refine Calls.mono (wbyte w.heap.size w.heap.size (Lib.byteCells out) 92 _ hB (by omega) hz) ?_
                  rintro e w1 ⟨rfl, hB2, hb2⟩
                  rw [e92] at hB2
                  have hz1 : w.heap.size ≤ w1.heap.size := Nat.le_trans hz hb2.size
                  have hbl1 : (Lib.byteCells (out ++ [l[k]])).length = out.length + 1 := by simp [Lib.byteCells]
                  go_wp2_with fail
                  refine Calls.mono (wbyte w.heap.size w.heap.size (Lib.byteCells (out ++ [l[k]])) l[k + 1].toNat _ (.inr hB2) (by omega) hz1) ?_
                  rintro e w2 ⟨rfl, hB3, hb3⟩
                  rw [bcells_snoc] at hB3
                  go_wp2_with fail
                  go_roundw
                  case rel => exact ⟨k + 2, out ++ [l[k]] ++ [l[k + 1]], by omega, by omega, by go_num, .inr hB3, Below.trans (Below.trans hE hb2) hb3, by simp; omega, hQ2⟩
                  case measure => simp [intOf]; omega
            · have hQ2 : Hid (sla (l.drop 1) = none) := Lib.hid (by rw [hQ.out, hd.out, List.drop_eq_nil_of_le (by omega), sla_last _ h92]; rfl)
              clear hQ hd
              have b3 : ((k : Int) + 1 == (l.length : Int)) = true := by rw [beq_iff_eq]; omega
              go_wp2_with fail
              go_ret3
              exact ⟨by rw [hQ2.out]; simp [quoR, bs_nil], hE⟩
          · have hQ2 : Hid (sla (l.drop 1) = (sla (l.drop (k + 1))).map fun x => ((out ++ [l[k]]) ++ x.1, (k + 1 - 1) + x.2)) := Lib.hid (by
              rw [hQ.out, hd.out, sla_one _ _ h47 (by omega) h92, Option.map_map]
              congr 1
              funext y
              simp only [Function.comp, List.append_assoc, List.singleton_append, Prod.mk.injEq, true_and]
              omega)
            clear hQ hd
            have b2 : ((l[k].toNat : Int) == 92) = false := by rw [beq_eq_false_iff_ne]; omega
            go_wp2_with (go_at_call 130; refine (wbyte w.heap.size w.heap.size (Lib.byteCells out) l[k].toNat _ hB (by omega) hz).mono ?_; rintro e w1 ⟨rfl, hB2, hb2⟩)
            rw [bcells_snoc] at hB2
            go_roundw
            case rel => exact ⟨k + 1, out ++ [l[k]], by omega, by omega, by go_num, .inr hB2, Below.trans hE hb2, by simp; omega, hQ2⟩
            case measure => simp [intOf]; omega
    · have hQ2 : Hid (sla (l.drop 1) = none) := Lib.hid (by rw [hQ.out, List.drop_eq_nil_of_le (by omega), sla_nil]; rfl)
      clear hQ
      go_wp2_with fail
      go_ret3
      exact ⟨by rw [hQ2.out]; simp [quoR, bs_nil], hE⟩
theorem pattern_s (l : List UInt8) (h0 : 0 < l.length) (hl : l.length ≤ 100000) (H : List Hp) : Spec Tryz.prog 121 H [.x (.string (bs l))] (fun r H' => r = .x (quoR (sla (l.drop 1))) ∧ H' = H) :=
  Spec_calls (args := [.string (bs l)]) (fun w => pattern_c l w h0 hl) H
end Go.Proofs.YtkhhlmonhapmaaaGreatDoor
