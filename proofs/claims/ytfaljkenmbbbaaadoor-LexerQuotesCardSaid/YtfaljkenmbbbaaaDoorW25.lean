import Derived.Test.YtfaljkenmbbbaaaDoorW14
import Derived.Test.YtfaljkenmbbbaaaDoorW24
import Derived.Lib.Builder
import Derived.Test.YtfaljkenmbbbaaaDoorW22
/- strings.Builder's WriteString at this dump; the program's lexer: Quote. After the shelf's proof. -/
namespace Go.Proofs.YtfaljkenmbbbaaaDoor
open Go.Shelf Go.RowKit
set_option linter.unusedSimpArgs false
set_option linter.unusedVariables false
set_option maxHeartbeats 2000000 in
set_option maxRecDepth 100000 in
/-- WriteString. -/
theorem wstr (B b : Nat) (bs : List Value) (s : ByteArray) (w : World) (h : Lib.IsBuilder 73 5 B b bs w) (hlen : bs.length + s.size ≤ 140737488355328) (hBw : B ≤ w.heap.size) :
    Calls Tryd.prog 28 #[.pointer (some ⟨b, 0, none⟩), .string s] w fun e w' => e = .returned (.tuple #[.int .i64 s.size, .nilIface]) ∧ (Lib.BuilderAt 73 5 B b (.pointer (some ⟨b, 0, none⟩)) (bs ++ Lib.strCells s) w' ∧ Below B w w') := by
  obtain ⟨i0, hi, hz0, hz1, hz2⟩ := info_parts Builder_Extra_169.infoByte
  go_enter Tryd.func28, Tryd.ntmps28
  go_wp2_with (go_at_call 48; refine (cc_any B b bs _ h).mono ?_)
  rintro e w1 ⟨rfl, h1, hb1⟩
  obtain ⟨hB, v, hbk, hown, hne⟩ := h1
  have c0 : w1.cell? ⟨b, 0, none⟩ = some (.pointer (some ⟨b, 0, none⟩)) := by rw [Lib.cell_of_heap hbk]; rfl
  have c1 : w1.cell? ⟨b, 1, none⟩ = some v := by rw [Lib.cell_of_heap hbk]; rfl
  go_wp2_with (at_builtin; refine Lib.wpList_append_own_string _ rfl _ _ 38 9 rfl B 5 i0 Tryd.underlying38 Tryd.underlying9 hi hz0 hz1 hz2 _ _ _ rfl hown s rfl ?c3 ?c4 ?c5 ?_)
  case c3 => unfold maxLen; omega
  case c4 => omega
  case c5 => have := hb1.size; omega
  intro v' w2 hown' hgrow _
  have hlt : b < w1.heap.size := by
    rcases Nat.lt_or_ge b w1.heap.size with h' | h'
    · exact h'
    · simp [Array.getElem?_eq_none h'] at hbk
  have hb2 : w2.heap[b]? = some (.cells #[.pointer (some ⟨b, 0, none⟩), v] 73 (0, 0)) := by
    rw [hgrow.block b hlt (fun e => hne e.symm)]
    exact hbk
  have d0 : w2.cell? ⟨b, 0, none⟩ = some (.pointer (some ⟨b, 0, none⟩)) := by rw [Lib.cell_of_heap hb2]; rfl
  have d1 : w2.cell? ⟨b, 1, none⟩ = some v := by rw [Lib.cell_of_heap hb2]; rfl
  have f1 : w2.frozen? ⟨b, 1, none⟩ = false := Lib.frozen_of_heap hb2 1
  obtain ⟨ao, n', cap, rfl⟩ : ∃ ao n' cap, v' = .slice ao n' cap := by
    rcases hown'.2 with ⟨hv, _⟩ | ⟨g, cap, cur, hv, _⟩
    · exact ⟨_, _, _, hv⟩
    · exact ⟨_, _, _, hv⟩
  go_wp2
  go_ret2
  refine ⟨rfl, ?_, ?_⟩
  · exact Lib.BuilderAt.put (T := 73) (e := 5) hB hb2 (bs' := bs ++ Lib.strCells s) (by simpa [Lib.strCells_length] using hown') Builder_Extra_169.neB5
  · exact (hb1.grown hgrow (by have := hb1.size; omega) (fun k hk => (hown.lt k hk).1)).setCell (p := ⟨b, 1, none⟩) hB _
theorem bcells_app (a b : List UInt8) : Lib.byteCells (a ++ b) = Lib.byteCells a ++ Lib.byteCells b := by simp [Lib.byteCells]
theorem dig_at : ∀ (i : Nat) (h : i < (ByteArray.mk #[48, 49, 50, 51, 52, 53, 54, 55, 56, 57, 97, 98, 99, 100, 101, 102]).size), (ByteArray.mk #[48, 49, 50, 51, 52, 53, 54, 55, 56, 57, 97, 98, 99, 100, 101, 102])[i] = digs.getD i 0
  | 0, _ => rfl
  | 1, _ => rfl
  | 2, _ => rfl
  | 3, _ => rfl
  | 4, _ => rfl
  | 5, _ => rfl
  | 6, _ => rfl
  | 7, _ => rfl
  | 8, _ => rfl
  | 9, _ => rfl
  | 10, _ => rfl
  | 11, _ => rfl
  | 12, _ => rfl
  | 13, _ => rfl
  | 14, _ => rfl
  | 15, _ => rfl
  | n + 16, h => absurd h (by simp [ByteArray.size])
set_option maxRecDepth 100000 in
set_option maxHeartbeats 8000000 in
theorem quote_c (l : List UInt8) (w : World) (hl : l.length ≤ 100000) : Calls Tryd.prog 17 #[.string (bs l)] w fun e w' => e = .returned (.string (bs (quoteL l))) ∧ Ext w w' := by
  go_enter Tryd.func17, Tryd.ntmps17
  go_wp2_with fail
  refine Calls.mono (wbyte w.heap.size w.heap.size [] 34 _ (.inl ⟨Nat.le_refl _, .slice none 0 0, by unfold World.alloc; exact Array.getElem?_push_size, ⟨rfl, .inl ⟨rfl, rfl⟩⟩, by intro h; cases h⟩) (by simp) (by simp)) ?_
  rintro e w0 ⟨rfl, hB0, hb0⟩
  have hE0 : Ext w w0 := Below.trans (Ext.al _ _) hb0
  go_wp2_with fail
  go_loopw [4] (fun i wr => ∃ (k : Nat), k ≤ l.length ∧ i = .int .i64 k ∧ Lib.IsBuilder 73 5 w.heap.size w.heap.size (Lib.byteCells (escs (l.take k))) wr ∧ Ext w wr) (fun i _ => l.length - (intOf i).toNat)
  case atStart => exact ⟨0, Nat.zero_le _, rfl, .inr hB0, hE0⟩
  case round =>
    obtain ⟨k, h1, rfl, hB, hE⟩ := hrel
    have hz : w.heap.size ≤ wr.heap.size := hE.size
    have hel := escs_len (l.take k)
    rw [List.length_take, Nat.min_eq_left h1] at hel
    have hbl : (Lib.byteCells (escs (l.take k))).length = (escs (l.take k)).length := by simp [Lib.byteCells]
    obtain ⟨out, hout'⟩ : ∃ out, escs (l.take k) = out := ⟨_, rfl⟩
    rw [hout'] at hB hel hbl
    have hout' := Lib.hid hout'
    by_cases hlt : k < l.length
    · have hsu := Lib.hid (escs_succ l k hlt)
      rw [hout'.out] at hsu
      by_cases c34 : l[k].toNat = 34
      · have hq : Hid (escL l[k] = [92, l[k]]) := Lib.hid (by unfold escL; rw [if_pos (by omega)])
        have b1 : ((l[k].toNat : Int) == 34) = true := by rw [beq_iff_eq]; omega
        clear c34
        go_wp2_with fail
        refine Calls.mono (wbyte w.heap.size w.heap.size (Lib.byteCells out) 92 _ hB (by omega) hz) ?_
        rintro e w1 ⟨rfl, hB2, hb2⟩
        rw [show (Value.int IntKind.u8 92) = .int .u8 ((92 : UInt8).toNat : Nat) from rfl, bcells_snoc] at hB2
        have hz1 : w.heap.size ≤ w1.heap.size := Nat.le_trans hz hb2.size
        have hbl1 : (Lib.byteCells (out ++ [92])).length = out.length + 1 := by simp [Lib.byteCells]
        go_wp2_with fail
        refine Calls.mono (wbyte w.heap.size w.heap.size (Lib.byteCells (out ++ [92])) l[k].toNat _ (.inr hB2) (by omega) hz1) ?_
        rintro e w2 ⟨rfl, hB3, hb3⟩
        rw [bcells_snoc] at hB3
        go_wp2_with fail
        go_roundw
        case rel => exact ⟨k + 1, by omega, by go_num, .inr (by rw [hsu.out, hq.out, show out ++ [92, l[k]] = out ++ [92] ++ [l[k]] by simp]; exact hB3), Below.trans (Below.trans hE hb2) hb3⟩
        case measure => simp [intOf]; omega
      have b1 : ((l[k].toNat : Int) == 34) = false := by rw [beq_eq_false_iff_ne]; omega
      by_cases c92 : l[k].toNat = 92
      · have hq : Hid (escL l[k] = [92, l[k]]) := Lib.hid (by unfold escL; rw [if_pos (by omega)])
        have b2 : ((l[k].toNat : Int) == 92) = true := by rw [beq_iff_eq]; omega
        clear c92 c34
        go_wp2_with fail
        refine Calls.mono (wbyte w.heap.size w.heap.size (Lib.byteCells out) 92 _ hB (by omega) hz) ?_
        rintro e w1 ⟨rfl, hB2, hb2⟩
        rw [show (Value.int IntKind.u8 92) = .int .u8 ((92 : UInt8).toNat : Nat) from rfl, bcells_snoc] at hB2
        have hz1 : w.heap.size ≤ w1.heap.size := Nat.le_trans hz hb2.size
        have hbl1 : (Lib.byteCells (out ++ [92])).length = out.length + 1 := by simp [Lib.byteCells]
        go_wp2_with fail
        refine Calls.mono (wbyte w.heap.size w.heap.size (Lib.byteCells (out ++ [92])) l[k].toNat _ (.inr hB2) (by omega) hz1) ?_
        rintro e w2 ⟨rfl, hB3, hb3⟩
        rw [bcells_snoc] at hB3
        go_wp2_with fail
        go_roundw
        case rel => exact ⟨k + 1, by omega, by go_num, .inr (by rw [hsu.out, hq.out, show out ++ [92, l[k]] = out ++ [92] ++ [l[k]] by simp]; exact hB3), Below.trans (Below.trans hE hb2) hb3⟩
        case measure => simp [intOf]; omega
      have b2 : ((l[k].toNat : Int) == 92) = false := by rw [beq_eq_false_iff_ne]; omega
      by_cases c10 : l[k].toNat = 10
      · have hq : Hid (escL l[k] = [92, 110]) := Lib.hid (by unfold escL; rw [if_neg (by omega), if_pos c10])
        have b3 : ((l[k].toNat : Int) == 10) = true := by rw [beq_iff_eq]; omega
        clear c10
        go_wp2_with fail
        refine Calls.mono (wstr w.heap.size w.heap.size (Lib.byteCells out) (bs [92, 110]) _ hB (by rw [bs_size]; simp only [List.length_cons, List.length_nil]; omega) hz) ?_
        rintro e w1 ⟨rfl, hB2, hb2⟩
        rw [show Lib.byteCells out ++ Lib.strCells (bs [92, 110]) = Lib.byteCells (out ++ [92, 110]) by rw [bcells_app]; rfl] at hB2
        go_wp2_with fail
        go_roundw
        case rel => exact ⟨k + 1, by omega, by go_num, .inr (by rw [hsu.out, hq.out]; exact hB2), Below.trans hE hb2⟩
        case measure => simp [intOf]; omega
      have b3 : ((l[k].toNat : Int) == 10) = false := by rw [beq_eq_false_iff_ne]; omega
      by_cases c9 : l[k].toNat = 9
      · have hq : Hid (escL l[k] = [92, 116]) := Lib.hid (by unfold escL; rw [if_neg (by omega), if_neg c10, if_pos c9])
        have b3 : ((l[k].toNat : Int) == 9) = true := by rw [beq_iff_eq]; omega
        clear c9
        go_wp2_with fail
        refine Calls.mono (wstr w.heap.size w.heap.size (Lib.byteCells out) (bs [92, 116]) _ hB (by rw [bs_size]; simp only [List.length_cons, List.length_nil]; omega) hz) ?_
        rintro e w1 ⟨rfl, hB2, hb2⟩
        rw [show Lib.byteCells out ++ Lib.strCells (bs [92, 116]) = Lib.byteCells (out ++ [92, 116]) by rw [bcells_app]; rfl] at hB2
        go_wp2_with fail
        go_roundw
        case rel => exact ⟨k + 1, by omega, by go_num, .inr (by rw [hsu.out, hq.out]; exact hB2), Below.trans hE hb2⟩
        case measure => simp [intOf]; omega
      have b4 : ((l[k].toNat : Int) == 9) = false := by rw [beq_eq_false_iff_ne]; omega
      by_cases c32 : l[k].toNat < 32
      · have hq : Hid (escL l[k] = [92, 120, digs.getD (l[k].toNat / 16) 0, digs.getD (l[k].toNat % 16) 0]) := Lib.hid (by unfold escL; rw [if_neg (by omega), if_neg c10, if_neg c9, if_pos (.inl c32)])
        clear c34 c92 c10 c9
        go_wp2_with fail
        refine Calls.mono (wstr w.heap.size w.heap.size (Lib.byteCells out) (bs [92, 120]) _ hB (by rw [bs_size]; simp only [List.length_cons, List.length_nil]; omega) hz) ?_
        rintro e w1 ⟨rfl, hB2, hb2⟩
        rw [show Lib.byteCells out ++ Lib.strCells (bs [92, 120]) = Lib.byteCells (out ++ [92, 120]) by rw [bcells_app]; rfl] at hB2
        have hz1 : w.heap.size ≤ w1.heap.size := Nat.le_trans hz hb2.size
        have hbl1 : (Lib.byteCells (out ++ [92, 120])).length = out.length + 2 := by simp [Lib.byteCells]
        go_wp2_with fail
        refine Calls.mono (wbyte w.heap.size w.heap.size (Lib.byteCells (out ++ [92, 120])) _ _ (.inr hB2) (by omega) hz1) ?_
        rintro e w2 ⟨rfl, hB3, hb3⟩
        rw [dig_at, bcells_snoc] at hB3
        have hz2 : w.heap.size ≤ w2.heap.size := Nat.le_trans hz1 hb3.size
        have hbl2 : (Lib.byteCells (out ++ [92, 120] ++ [digs.getD (l[k].toNat / 16) 0])).length = out.length + 3 := by simp [Lib.byteCells]
        go_wp2_with fail
        refine Calls.mono (wbyte w.heap.size w.heap.size (Lib.byteCells (out ++ [92, 120] ++ [digs.getD (l[k].toNat / 16) 0])) _ _ (.inr hB3) (by omega) hz2) ?_
        rintro e w3 ⟨rfl, hB4, hb4⟩
        rw [dig_at, bcells_snoc] at hB4
        go_wp2_with fail
        go_roundw
        case rel => exact ⟨k + 1, by omega, by go_num, .inr (by rw [hsu.out, hq.out]; simpa only [List.append_assoc, List.cons_append, List.nil_append] using hB4), Below.trans (Below.trans (Below.trans hE hb2) hb3) hb4⟩
        case measure => simp [intOf]; omega
      by_cases c127 : l[k].toNat = 127
      · have hq : Hid (escL l[k] = [92, 120, digs.getD (l[k].toNat / 16) 0, digs.getD (l[k].toNat % 16) 0]) := Lib.hid (by unfold escL; rw [if_neg (by omega), if_neg c10, if_neg c9, if_pos (.inr c127)])
        have b5 : ((l[k].toNat : Int) == 127) = true := by rw [beq_iff_eq]; omega
        have g1 : (l[k].toNat : Int) / 16 < 16 := by omega
        have g2 : l[k].toNat / 16 < 16 := by omega
        clear c127
        clear c34 c92 c10 c9
        go_wp2_with fail
        refine Calls.mono (wstr w.heap.size w.heap.size (Lib.byteCells out) (bs [92, 120]) _ hB (by rw [bs_size]; simp only [List.length_cons, List.length_nil]; omega) hz) ?_
        rintro e w1 ⟨rfl, hB2, hb2⟩
        rw [show Lib.byteCells out ++ Lib.strCells (bs [92, 120]) = Lib.byteCells (out ++ [92, 120]) by rw [bcells_app]; rfl] at hB2
        have hz1 : w.heap.size ≤ w1.heap.size := Nat.le_trans hz hb2.size
        have hbl1 : (Lib.byteCells (out ++ [92, 120])).length = out.length + 2 := by simp [Lib.byteCells]
        go_wp2_with fail
        refine Calls.mono (wbyte w.heap.size w.heap.size (Lib.byteCells (out ++ [92, 120])) _ _ (.inr hB2) (by omega) hz1) ?_
        rintro e w2 ⟨rfl, hB3, hb3⟩
        rw [dig_at, bcells_snoc] at hB3
        have hz2 : w.heap.size ≤ w2.heap.size := Nat.le_trans hz1 hb3.size
        have hbl2 : (Lib.byteCells (out ++ [92, 120] ++ [digs.getD (l[k].toNat / 16) 0])).length = out.length + 3 := by simp [Lib.byteCells]
        go_wp2_with fail
        refine Calls.mono (wbyte w.heap.size w.heap.size (Lib.byteCells (out ++ [92, 120] ++ [digs.getD (l[k].toNat / 16) 0])) _ _ (.inr hB3) (by omega) hz2) ?_
        rintro e w3 ⟨rfl, hB4, hb4⟩
        rw [dig_at, bcells_snoc] at hB4
        go_wp2_with fail
        go_roundw
        case rel => exact ⟨k + 1, by omega, by go_num, .inr (by rw [hsu.out, hq.out]; simpa only [List.append_assoc, List.cons_append, List.nil_append] using hB4), Below.trans (Below.trans (Below.trans hE hb2) hb3) hb4⟩
        case measure => simp [intOf]; omega
      have b5 : ((l[k].toNat : Int) == 127) = false := by rw [beq_eq_false_iff_ne]; omega
      have hq : Hid (escL l[k] = [l[k]]) := Lib.hid (by unfold escL; rw [if_neg (by omega), if_neg c10, if_neg c9, if_neg (by omega)])
      clear c34 c92 c10 c9 c127
      go_wp2_with fail
      refine Calls.mono (wbyte w.heap.size w.heap.size (Lib.byteCells out) l[k].toNat _ hB (by omega) hz) ?_
      rintro e w1 ⟨rfl, hB2, hb2⟩
      rw [bcells_snoc] at hB2
      go_wp2_with fail
      go_roundw
      case rel => exact ⟨k + 1, by omega, by go_num, .inr (by rw [hsu.out, hq.out]; exact hB2), Below.trans hE hb2⟩
      case measure => simp [intOf]; omega
    · obtain rfl : k = l.length := by omega
      go_wp2_with fail
      refine Calls.mono (wbyte w.heap.size w.heap.size (Lib.byteCells out) 34 _ hB (by omega) hz) ?_
      rintro e w1 ⟨rfl, hB2, hb2⟩
      rw [show (Value.int IntKind.u8 34) = .int .u8 ((34 : UInt8).toNat : Nat) from rfl, bcells_snoc] at hB2
      go_wp2_with (go_at_call 29; refine (Builder_String_any w.heap.size w.heap.size (out ++ [34]) _ (.inr hB2) (Nat.le_trans hz hb2.size)).mono ?_; rintro e w2 ⟨rfl, hb3⟩)
      go_ret
      exact ⟨by rw [← hout'.out, List.take_length]; simp [bs, quoteL], Below.trans (Below.trans hE hb2) hb3⟩
theorem lquote_s (l : List UInt8) (hl : l.length ≤ 100000) : Spec Tryd.prog 17 [] [.x (.string (bs l))] (fun r H' => r = .x (.string (bs (quoteL l))) ∧ H' = []) :=
  Spec_calls (args := [.string (bs l)]) (fun w => quote_c l w hl) []
end Go.Proofs.YtfaljkenmbbbaaaDoor
/- LexerQuotes: a string comes back from its token; the walk. -/
namespace Go.Proofs.YtfaljkenmbbbaaaDoor
open Go.RowKit
set_option linter.unusedSimpArgs false
set_option linter.unusedVariables false
theorem hexv_dig : ∀ i : Nat, i < 16 → hexv (digs.getD i 0) = some i := by decide
theorem part_esc (b : UInt8) (r : List UInt8) : ∃ c t, escL b = c :: t ∧ c.toNat ≠ 34 ∧ part (c :: (t ++ r)) = some (b, (escL b).length) := by
  have hb := UInt8.toNat_lt b
  unfold escL
  split
  · rename_i h
    refine ⟨92, [b], rfl, by decide, ?_⟩
    rw [part_cons, if_neg (by decide), if_neg (by decide)]
    show Option.map _ (escd (b :: r)) = _
    rw [escd_mark b r h]; rfl
  · split
    · rename_i h
      refine ⟨92, [110], rfl, by decide, ?_⟩
      rw [part_cons, if_neg (by decide), if_neg (by decide)]
      show Option.map _ (escd (110 :: r)) = _
      rw [escd_n 110 r (by decide), show b = 10 from UInt8.toNat_inj.1 (by rw [h]; rfl)]; rfl
    · split
      · rename_i h
        refine ⟨92, [116], rfl, by decide, ?_⟩
        rw [part_cons, if_neg (by decide), if_neg (by decide)]
        show Option.map _ (escd (116 :: r)) = _
        rw [escd_t 116 r (by decide), show b = 9 from UInt8.toNat_inj.1 (by rw [h]; rfl)]; rfl
      · split
        · refine ⟨92, [120, digs.getD (b.toNat / 16) 0, digs.getD (b.toNat % 16) 0], rfl, by decide, ?_⟩
          rw [part_cons, if_neg (by decide), if_neg (by decide)]
          show Option.map _ (escd (120 :: digs.getD (b.toNat / 16) 0 :: digs.getD (b.toNat % 16) 0 :: r)) = _
          rw [escd_x 120 _ _ r (by decide), hexv_dig _ (by omega), hexv_dig _ (by omega)]
          simp only [Option.bind_some, Option.map_some, List.length_cons, List.length_nil]
          rw [show 16 * (b.toNat / 16) + b.toNat % 16 = b.toNat from by omega, UInt8.ofNat_toNat]
        · refine ⟨b, [], rfl, by omega, ?_⟩
          rw [part_cons, if_neg (by omega), if_pos (by omega)]; rfl
theorem quo_esc : ∀ s : List UInt8, quo (s.flatMap escL ++ [34]) = some (s, (s.flatMap escL).length + 1)
  | [] => by rw [List.flatMap_nil, List.nil_append, quo_end 34 [] (by decide)]; rfl
  | b :: s => by
    obtain ⟨c, t, he, h34, hp⟩ := part_esc b (s.flatMap escL ++ [34])
    have hl : (escL b).length = t.length + 1 := by rw [he]; rfl
    rw [List.flatMap_cons, List.append_assoc, he, List.cons_append, quo_part c _ b _ h34 hp, hl, List.drop_succ_cons, List.drop_left, quo_esc s]
    simp only [Option.map_some, List.length_append, List.length_cons]
    congr 2 <;> omega
theorem quoteL_len (s : List UInt8) : (quoteL s).length = (s.flatMap escL).length + 2 := by simp [quoteL, escs]
theorem lex_quote (s : List UInt8) (h : s.length ≤ 1000) : ∃ a b, lex (quoteL s) = .ok [⟨3, s, 1, 1⟩, ⟨6, [], a, b⟩] := by
  have hle := escs_len s
  have hql := quoteL_len s
  have he : (escs s).length = (s.flatMap escL).length + 1 := by simp [escs]
  have hq : quoteL s = 34 :: (s.flatMap escL ++ [34]) := rfl
  unfold lex
  rw [if_neg (by omega), hq]
  have h0 : skp (34 :: (s.flatMap escL ++ [34])) = 0 := skp_no _ _ (by decide) (by decide)
  have h1 : one (34 :: (s.flatMap escL ++ [34])) = .ok (3, s, (s.flatMap escL).length + 1 + 1) := by rw [one_str 34 _ (by decide) (by decide) (by decide), quo_esc]
  rw [lexGo_one (1, 1) 0 _ 34 (s.flatMap escL ++ [34]) 3 s _ (by rw [h0]; rfl) h1 (by omega) (by decide), h0]
  have h2 : (34 :: (s.flatMap escL ++ [34])).drop ((s.flatMap escL).length + 1 + 1) = [] := List.drop_eq_nil_of_le (by simp)
  rw [h2, lexGo_end _ _ [] (by rw [skp_nil]; rfl)]
  exact ⟨_, _, rfl⟩
set_option maxRecDepth 100000 in
set_option maxHeartbeats 8000000 in
theorem quotes_s (s : List UInt8) : Spec Tryd.prog 8 [] [.x (.string (bs s))] (fun r H' => r = .x (.bool true) ∧ H' = []) := by
  refine Spec_of Tryd.func8 rfl ?_
  simp only [Tryd.ntmps8, List.length_cons, List.length_nil, List.replicate_succ, List.replicate_zero, List.cons_append, List.nil_append, Nat.reduceAdd, Nat.reduceSub]
  (repeat' (first | with_reducible (first | refine awp_seq ?_ | refine awp_region ?_ | refine awp_block ?_ | refine awp_ret ?_ | refine awp_skip ?_ | refine awp_exit ?_ | refine awpL_nil ?_ | refine dr_nil ?_ | refine thenA_normal ?_ | refine thenA_exit ?_ | refine thenA_ret ?_ | refine inBlockA_eq ?_ | refine inBlockA_normal ?_ | refine inBlockA_ret ?_ | refine jumpA_normal ?_ | refine jumpA_exit ?_ | refine jumpA_ret ?_ | refine jumpA_goto ?_ | refine awp_goto ?_ | refine thenA_goto ?_ | refine inBlockA_goto ?_) | (with_reducible refine awp_drawnQ mixed ?_ ?_; (decide +kernel)) | (with_reducible refine inBlockA_ne ?_ ?_; (decide)) | (refine awp_cond _ rfl (fun h => ?_) (fun h => ?_) <;> first | (exact absurd h (by decide)) | ((try (simp only [whn] at h)); first | (exfalso; omega; done) | skip)) | ((first | apply awpL_gf rfl rfl rfl | apply dr_gf rfl rfl rfl); (case hT => ((try simp only [wtn, List.append_eq, List.foldl_cons, List.foldl_nil, List.map_cons, List.map_nil, Nat.reduceAdd, Nat.reduceMul, Nat.reduceSub, ↓reduceIte, Nat.reduceEqDiff]); rfl))) | ((first | apply awpL_evl2 rfl | apply dr_evl2 rfl | apply awpL_g2 _ _ rfl rfl rfl | apply dr_g2 _ _ rfl rfl rfl); (case h => ((try (intro (hp : (_ : Bool) = true); ((try simp only [Bool.and_eq_true, Bool.not_eq_true', Bool.not_eq_true] at hp); (try simp only [hp, wte]); (try simp only [whn] at hp)))); (first | (apply Evl_k 0 rfl; (first | exact Evl_mv _ rfl | exact Evl_as _ rfl)) | (apply Evl_k 1 rfl; (first | exact Evl_pickf _ _ _ rfl rfl | exact Evl_pickt _ _ _ rfl rfl | exact Evl_and _ _ _ _ _ rfl rfl rfl rfl | exact Evl_or _ _ _ _ _ rfl rfl rfl rfl | exact Evl_and' _ _ _ _ _ rfl rfl rfl rfl | exact Evl_or' _ _ _ _ _ rfl rfl rfl rfl)) | (apply Evl_k 2 rfl; (first | exact Evl_extract _ _ _ _ rfl rfl rfl)) | (apply Evl_k 3 rfl; (first | exact Evl_len _ _ _ _ _ _ HEl.out rfl rfl)) | (apply Evl_k 4 rfl; (first | exact Evl_nil _ rfl (by first | exact .inl ⟨_, rfl⟩ | exact .inr ⟨_, rfl⟩))) | (apply Evl_k 5 rfl; (first | exact Evl_field_x _ _ _ _ _ _ rfl rfl HFld.out | exact Evl_field_at _ _ _ _ _ rfl rfl HFld.out)) | (apply Evl_k 6 rfl; (first | exact Evl_load_at _ _ _ _ _ rfl rfl HAgg.out (by first | exact Nat.le_of_ble_eq_true rfl | (simp [wlq]; first | done | omega)) (by first | exact Nat.le_of_ble_eq_true rfl | (simp [wlq]; first | done | omega)) | exact Evl_load _ _ _ _ _ _ _ _ rfl rfl FBox.out HAgg.out (by first | exact Nat.le_of_ble_eq_true rfl | (simp [wlq]; first | done | omega)) (by first | exact Nat.le_of_ble_eq_true rfl | (simp [wlq]; first | done | omega)) | exact Evl_load_row _ _ _ _ _ _ _ _ _ _ _ _ rfl rfl FRow.out HAgg.out (by first | exact Nat.le_of_ble_eq_true rfl | (simp [wlq]; first | done | omega)) (by first | exact Nat.le_of_ble_eq_true rfl | (simp [wlq]; first | done | omega)))) | (apply Evl_k 7 rfl; (first | exact Evl_index_sq _ _ _ _ _ _ _ _ _ _ rfl rfl rfl HEl.out rfl (by first | omega | assumption) (by simp; first | done | omega) | exact Evl_index_own _ _ _ _ _ _ _ _ _ _ _ _ rfl rfl rfl HEl.out rfl (by first | omega | assumption))) | (apply Evl_k 8 rfl; (first | exact Evl_index_str _ _ _ _ _ _ _ rfl rfl rfl (by kernel_rfl) rfl (by omega))) | (apply Evl_k 10 rfl; (first | exact Evl_build _ _ _ _ _ rfl HPl.out (by first | rfl | (simp; done)) rfl)) | (apply Evl_k 11 rfl; (first | exact Evl_call 9 Tryd.f9 _ _ rfl rfl Tryd.func9 (by decide) rfl (VwL.refl _ _) (sane_s))) | (apply Evl_x; (case hs => (intro _ _ h; cases h)); (case hx => rfl); (case hrun => (intro w; simp [wtb, AV.val, go_sem]; (try go_bits); rfl)))))); (case hT => ((try simp only [wtn, List.append_eq, List.foldl_cons, List.foldl_nil, List.map_cons, List.map_nil, Nat.reduceAdd, Nat.reduceMul, Nat.reduceSub, ↓reduceIte, Nat.reduceEqDiff]); rfl))) | (refine awpL_cons rfl ?_; ((first | (refine Stp_k 13 rfl ?_; (first | (refine Stp_append _ _ _ _ _ _ _ _ _ _ _ _ _ _ rfl rfl FRow.out (Src.row _ rfl FRow.out) HElem.out (by first | rfl | (simp; first | done | omega)) (fits _ _ (by omega) (by decide)) (fun ad cap => ?_)) | (refine Stp_append _ _ _ _ _ _ _ _ _ _ _ _ _ _ rfl rfl FRow.out (Src.sq rfl) HElem.out (by first | rfl | (simp; first | done | omega)) (fits _ _ (by omega) (by decide)) (fun ad cap => ?_)))) | (refine Stp_k 14 rfl ?_; (first | (refine Stp_alloc _ _ rfl HZero.out rfl (fun b => ?_)))) | (refine Stp_k 15 rfl ?_; (first | (refine Stp_box _ _ rfl (by first | rfl | ((try simp only [wtn, List.append_eq, List.foldl_cons, List.foldl_nil, List.map_cons, List.map_nil, Nat.reduceAdd, Nat.reduceMul, Nat.reduceSub, ↓reduceIte, Nat.reduceEqDiff]); simp [won, Value.oneCell']; done)) (fun b => ?_)))) | (refine Stp_k 16 rfl ?_; (first | (refine Stp_store _ _ _ _ _ _ _ rfl rfl FBox.out HSize.out (by first | rfl | ((try simp only [wtn, List.append_eq, List.foldl_cons, List.foldl_nil, List.map_cons, List.map_nil, Nat.reduceAdd, Nat.reduceMul, Nat.reduceSub, ↓reduceIte, Nat.reduceEqDiff]); simp [won, Value.oneCell']; done)) (by first | exact Nat.le_of_ble_eq_true rfl | (simp [wlq]; first | done | omega)) ?_) | (refine Stp_store_row _ _ _ _ _ _ _ _ _ _ _ rfl rfl FRow.out HSize.out (by first | rfl | ((try simp only [wtn, List.append_eq, List.foldl_cons, List.foldl_nil, List.map_cons, List.map_nil, Nat.reduceAdd, Nat.reduceMul, Nat.reduceSub, ↓reduceIte, Nat.reduceEqDiff]); simp [won, Value.oneCell']; done)) (by first | exact Nat.le_of_ble_eq_true rfl | (simp [wlq]; first | done | omega)) ?_))) | (refine Stp_k 17 rfl ?_; (first | (refine Stp_buildSlice _ _ _ _ _ _ _ _ rfl HElem.out (by first | rfl | ((try simp only [wtn, List.append_eq, List.foldl_cons, List.foldl_nil, List.map_cons, List.map_nil, Nat.reduceAdd, Nat.reduceMul, Nat.reduceSub, ↓reduceIte, Nat.reduceEqDiff]); simp [won, Value.oneCell']; done)) rfl (by decide) rfl (fun b => ?_))))); apply awpL_cong; (case hT => ((try simp only [wtn, List.append_eq, List.foldl_cons, List.foldl_nil, List.map_cons, List.map_nil, Nat.reduceAdd, Nat.reduceMul, Nat.reduceSub, ↓reduceIte, Nat.reduceEqDiff]); rfl)); (case hH => ((try simp only [wtn, List.append_eq, List.foldl_cons, List.foldl_nil, List.map_cons, List.map_nil, Nat.reduceAdd, Nat.reduceMul, Nat.reduceSub, ↓reduceIte, Nat.reduceEqDiff]); rfl))))))
  · refine endA_ret _ _ (Res1 rfl (RV.tmp _) (Weak.mk' [] _ (List.Perm.refl _) (VwHs.refl _ _) (VwL.refl _ _))) ?_
    exact ⟨rfl, rfl⟩
  have hs : s.length ≤ 1000 := by omega
  have h1 := lquote_s s (by omega)
  have h2 := quote_s s (by omega)
  have hql := escs_len s
  have h3 := lall_s (quoteL s) (by simp [quoteL]; omega)
  obtain ⟨a, b, hx⟩ := lex_quote s hs
  rw [hx] at h3
  have h3' : Spec Tryd.prog 13 [] [.x (.string (bs (quoteL s)))] (fun r H' => r = .tup [.sq 2 [.x (.int .i64 3), .x (.string (bs s)), .x (.int .i64 1), .x (.int .i64 1), .x (.int .i64 6), .x (.string (bs [])), .x (.int .i64 (a : Nat)), .x (.int .i64 (b : Nat))], .x (.agg #[.int .i64 0, .int .i64 0, .int .i64 0])] ∧ H' = []) := h3
  clear h3 hx hql
  generalize quoteL s = q at *
  (repeat' (first | with_reducible (first | refine awp_seq ?_ | refine awp_region ?_ | refine awp_block ?_ | refine awp_ret ?_ | refine awp_skip ?_ | refine awp_exit ?_ | refine awpL_nil ?_ | refine dr_nil ?_ | refine thenA_normal ?_ | refine thenA_exit ?_ | refine thenA_ret ?_ | refine inBlockA_eq ?_ | refine inBlockA_normal ?_ | refine inBlockA_ret ?_ | refine jumpA_normal ?_ | refine jumpA_exit ?_ | refine jumpA_ret ?_ | refine jumpA_goto ?_ | refine awp_goto ?_ | refine thenA_goto ?_ | refine inBlockA_goto ?_) | (with_reducible refine awp_drawnQ mixed ?_ ?_; (decide +kernel)) | (with_reducible refine inBlockA_ne ?_ ?_; (decide)) | (refine awp_cond _ rfl (fun h => ?_) (fun h => ?_) <;> first | (exact absurd h (by decide)) | ((try (simp only [whn] at h)); first | (exfalso; omega; done) | skip)) | ((first | apply awpL_gf rfl rfl rfl | apply dr_gf rfl rfl rfl); (case hT => ((try simp only [wtn, List.append_eq, List.foldl_cons, List.foldl_nil, List.map_cons, List.map_nil, Nat.reduceAdd, Nat.reduceMul, Nat.reduceSub, ↓reduceIte, Nat.reduceEqDiff]); rfl))) | ((first | apply awpL_evl2 rfl | apply dr_evl2 rfl | apply awpL_g2 _ _ rfl rfl rfl | apply dr_g2 _ _ rfl rfl rfl); (case h => ((try (intro (hp : (_ : Bool) = true); ((try simp only [Bool.and_eq_true, Bool.not_eq_true', Bool.not_eq_true] at hp); (try simp only [hp, wte]); (try simp only [whn] at hp)))); (first | (apply Evl_k 0 rfl; (first | exact Evl_mv _ rfl | exact Evl_as _ rfl)) | (apply Evl_k 1 rfl; (first | exact Evl_pickf _ _ _ rfl rfl | exact Evl_pickt _ _ _ rfl rfl | exact Evl_and _ _ _ _ _ rfl rfl rfl rfl | exact Evl_or _ _ _ _ _ rfl rfl rfl rfl | exact Evl_and' _ _ _ _ _ rfl rfl rfl rfl | exact Evl_or' _ _ _ _ _ rfl rfl rfl rfl)) | (apply Evl_k 2 rfl; (first | exact Evl_extract _ _ _ _ rfl rfl rfl)) | (apply Evl_k 3 rfl; (first | exact Evl_len _ _ _ _ _ _ HEl.out rfl rfl)) | (apply Evl_k 4 rfl; (first | exact Evl_nil _ rfl (by first | exact .inl ⟨_, rfl⟩ | exact .inr ⟨_, rfl⟩))) | (apply Evl_k 5 rfl; (first | exact Evl_field_x _ _ _ _ _ _ rfl rfl HFld.out | exact Evl_field_at _ _ _ _ _ rfl rfl HFld.out)) | (apply Evl_k 6 rfl; (first | exact Evl_load_at _ _ _ _ _ rfl rfl HAgg.out (by first | exact Nat.le_of_ble_eq_true rfl | (simp [wlq]; first | done | omega)) (by first | exact Nat.le_of_ble_eq_true rfl | (simp [wlq]; first | done | omega)) | exact Evl_load _ _ _ _ _ _ _ _ rfl rfl FBox.out HAgg.out (by first | exact Nat.le_of_ble_eq_true rfl | (simp [wlq]; first | done | omega)) (by first | exact Nat.le_of_ble_eq_true rfl | (simp [wlq]; first | done | omega)) | exact Evl_load_row _ _ _ _ _ _ _ _ _ _ _ _ rfl rfl FRow.out HAgg.out (by first | exact Nat.le_of_ble_eq_true rfl | (simp [wlq]; first | done | omega)) (by first | exact Nat.le_of_ble_eq_true rfl | (simp [wlq]; first | done | omega)))) | (apply Evl_k 7 rfl; (first | exact Evl_index_sq _ _ _ _ _ _ _ _ 0 _ rfl rfl rfl HEl.out rfl (by omega) (by simp; first | done | omega) | exact Evl_index_sq _ _ _ _ _ _ _ _ 1 _ rfl rfl rfl HEl.out rfl (by omega) (by simp; first | done | omega) | exact Evl_index_sq _ _ _ _ _ _ _ _ _ _ rfl rfl rfl HEl.out rfl (by first | omega | assumption) (by simp; first | done | omega) | exact Evl_index_own _ _ _ _ _ _ _ _ _ _ _ _ rfl rfl rfl HEl.out rfl (by first | omega | assumption))) | (apply Evl_k 8 rfl; (first | exact Evl_index_str _ _ _ _ _ _ _ rfl rfl rfl (by kernel_rfl) rfl (by omega))) | (apply Evl_k 9 rfl; (first | exact Evl_slice_str _ _ _ _ _ _ _ rfl rfl (by kernel_rfl) (by first | exact .inl ⟨rfl, rfl⟩ | exact .inr ⟨_, _, rfl, rfl⟩) (by first | exact .inl ⟨rfl, rfl⟩ | exact .inr ⟨_, _, rfl, rfl⟩) (by omega) (by omega) | exact Evl_slice_sq _ _ _ _ _ _ _ _ _ _ rfl rfl HEl.out (by first | exact .inl ⟨rfl, rfl⟩ | exact .inr ⟨_, _, rfl, rfl⟩) (by first | exact .inl ⟨rfl, rfl⟩ | exact .inr ⟨_, _, rfl, rfl⟩) (by omega) (by omega) | exact Evl_slice_own _ _ _ _ _ _ _ _ _ _ _ _ rfl rfl HEl.out (by first | exact .inl ⟨rfl, rfl⟩ | exact .inr ⟨_, _, rfl, rfl⟩) (by first | exact .inl ⟨rfl, rfl⟩ | exact .inr ⟨_, _, rfl, rfl⟩) (by omega) (by omega))) | (apply Evl_k 10 rfl; (first | exact Evl_build _ _ _ _ _ rfl HPl.out (by first | rfl | (simp; done)) rfl)) | (apply Evl_k 11 rfl; (first | exact Evl_call 17 Tryd.f17 _ _ rfl rfl Tryd.func17 (by decide) rfl (VwL.refl _ _) (h1) | exact Evl_call 18 Tryd.f18 _ _ rfl rfl Tryd.func18 (by decide) rfl (VwL.refl _ _) (h2) | exact Evl_call 13 Tryd.f13 _ _ rfl rfl Tryd.func13 (by decide) rfl (VwL.refl _ _) (h3'))) | (apply Evl_x; (case hs => (intro _ _ h; cases h)); (case hx => rfl); (case hrun => (intro w; simp [wtb, AV.val, go_sem]; (try go_bits); rfl)))))); (case hT => ((try simp only [wtn, List.append_eq, List.foldl_cons, List.foldl_nil, List.map_cons, List.map_nil, Nat.reduceAdd, Nat.reduceMul, Nat.reduceSub, ↓reduceIte, Nat.reduceEqDiff]); rfl))) | (refine awpL_cons rfl ?_; ((first | (refine Stp_k 13 rfl ?_; (first | (refine Stp_append _ _ _ _ _ _ _ _ _ _ _ _ _ _ rfl rfl FRow.out (Src.row _ rfl FRow.out) HElem.out (by first | rfl | (simp; first | done | omega)) (fits _ _ (by omega) (by decide)) (fun ad cap => ?_)) | (refine Stp_append _ _ _ _ _ _ _ _ _ _ _ _ _ _ rfl rfl FRow.out (Src.sq rfl) HElem.out (by first | rfl | (simp; first | done | omega)) (fits _ _ (by omega) (by decide)) (fun ad cap => ?_)))) | (refine Stp_k 14 rfl ?_; (first | (refine Stp_alloc _ _ rfl HZero.out rfl (fun b => ?_)))) | (refine Stp_k 15 rfl ?_; (first | (refine Stp_box _ _ rfl (by first | rfl | ((try simp only [wtn, List.append_eq, List.foldl_cons, List.foldl_nil, List.map_cons, List.map_nil, Nat.reduceAdd, Nat.reduceMul, Nat.reduceSub, ↓reduceIte, Nat.reduceEqDiff]); simp [won, Value.oneCell']; done)) (fun b => ?_)))) | (refine Stp_k 16 rfl ?_; (first | (refine Stp_store _ _ _ _ _ _ _ rfl rfl FBox.out HSize.out (by first | rfl | ((try simp only [wtn, List.append_eq, List.foldl_cons, List.foldl_nil, List.map_cons, List.map_nil, Nat.reduceAdd, Nat.reduceMul, Nat.reduceSub, ↓reduceIte, Nat.reduceEqDiff]); simp [won, Value.oneCell']; done)) (by first | exact Nat.le_of_ble_eq_true rfl | (simp [wlq]; first | done | omega)) ?_) | (refine Stp_store_row _ _ _ _ _ _ _ _ _ _ _ rfl rfl FRow.out HSize.out (by first | rfl | ((try simp only [wtn, List.append_eq, List.foldl_cons, List.foldl_nil, List.map_cons, List.map_nil, Nat.reduceAdd, Nat.reduceMul, Nat.reduceSub, ↓reduceIte, Nat.reduceEqDiff]); simp [won, Value.oneCell']; done)) (by first | exact Nat.le_of_ble_eq_true rfl | (simp [wlq]; first | done | omega)) ?_))) | (refine Stp_k 17 rfl ?_; (first | (refine Stp_buildSlice _ _ _ _ _ _ _ _ rfl HElem.out (by first | rfl | ((try simp only [wtn, List.append_eq, List.foldl_cons, List.foldl_nil, List.map_cons, List.map_nil, Nat.reduceAdd, Nat.reduceMul, Nat.reduceSub, ↓reduceIte, Nat.reduceEqDiff]); simp [won, Value.oneCell']; done)) rfl (by decide) rfl (fun b => ?_))))); apply awpL_cong; (case hT => ((try simp only [wtn, List.append_eq, List.foldl_cons, List.foldl_nil, List.map_cons, List.map_nil, Nat.reduceAdd, Nat.reduceMul, Nat.reduceSub, ↓reduceIte, Nat.reduceEqDiff]); rfl)); (case hH => ((try simp only [wtn, List.append_eq, List.foldl_cons, List.foldl_nil, List.map_cons, List.map_nil, Nat.reduceAdd, Nat.reduceMul, Nat.reduceSub, ↓reduceIte, Nat.reduceEqDiff]); rfl))))))
  refine endA_ret _ _ (Res1 rfl (RV.tmp _) (Weak.mk' [_] [] (List.Perm.refl _) (VwHs.refl _ _) (by first | exact VwL.refl _ _ | (repeat' (first | exact VwL.nil | (refine VwL.cons ?_ ?_) | exact Vw.refl _ | exact Vw.top _ | exact Vw.nil | (refine Vw.eq ?_; first | rfl | (simp; done) | (congr 3; omega) | (congr 2; omega))))))) ?_
  exact ⟨rfl, rfl⟩
end Go.Proofs.YtfaljkenmbbbaaaDoor
