import Derived.Test.YtkhhlmonhapmaaaGreatDoorW12
import Derived.Test.YtkhhlmonhapmaaaGreatDoorW3
import Derived.Test.YtkhhlmonhapmaaaGreatDoorRows
import Derived.Test.YtkhhlmonhapmaaaGreatDoorW0
/- The reference of the lexer: letter, digit, half, part. -/
namespace Go.Proofs.YtkhhlmonhapmaaaGreatDoor
open Go.RowKit
set_option linter.unusedSimpArgs false
set_option linter.unusedVariables false
theorem ret_bool {a b : Bool} (h : a = b) : Ending.returned (.bool a) = .returned (.bool b) := by rw [h]
theorem ret_ub {a b : Int} (h : a = b) (c : Bool) : Ending.returned (.tuple #[.int .u8 a, .bool c]) = .returned (.tuple #[.int .u8 b, .bool c]) := by rw [h]
set_option maxRecDepth 100000 in
set_option maxHeartbeats 800000 in
theorem rletter_any (b : UInt8) (w : World) : Calls Tryz.prog 92 #[.int .u8 b.toNat] w fun e w' => e = .returned (.bool (isLet b)) ∧ w' = w := by
  go_enter Tryz.func92, Tryz.ntmps92
  go_wp2_with fail
  all_goals go_ret
  all_goals unfold isLet
  all_goals exact ⟨ret_bool (by rw [Bool.eq_iff_iff]; simp only [Bool.or_eq_true, Bool.and_eq_true, decide_eq_true_eq, beq_iff_eq, bne_iff_ne, Bool.not_eq_true, Bool.not_eq_true', decide_eq_false_iff_not, reduceCtorEq, iff_true, true_iff, iff_false, false_iff, Bool.false_eq_true, ne_eq] <;> omega), rfl⟩
set_option maxRecDepth 100000 in
set_option maxHeartbeats 800000 in
theorem rdigit_any (b : UInt8) (w : World) : Calls Tryz.prog 94 #[.int .u8 b.toNat] w fun e w' => e = .returned (.bool (isDig b)) ∧ w' = w := by
  go_enter Tryz.func94, Tryz.ntmps94
  go_wp2_with fail
  all_goals go_ret
  all_goals unfold isDig
  all_goals exact ⟨ret_bool (by rw [Bool.eq_iff_iff]; simp only [Bool.or_eq_true, Bool.and_eq_true, decide_eq_true_eq, beq_iff_eq, bne_iff_ne, Bool.not_eq_true, Bool.not_eq_true', decide_eq_false_iff_not, reduceCtorEq, iff_true, true_iff, iff_false, false_iff, Bool.false_eq_true, ne_eq] <;> omega), rfl⟩
def hexr (b : UInt8) : Value := match hexv b with | none => .tuple #[.int .u8 0, .bool false] | some n => .tuple #[.int .u8 (n : Nat), .bool true]
set_option maxRecDepth 100000 in
set_option maxHeartbeats 800000 in
theorem rhalf_any (b : UInt8) (w : World) : Calls Tryz.prog 139 #[.int .u8 b.toNat] w fun e w' => e = .returned (hexr b) ∧ w' = w := by
  have hb := b.toNat_lt
  go_enter Tryz.func139, Tryz.ntmps139
  go_wp2_with fail
  refine Calls.mono (rdigit_any b _) ?_
  rintro e w1 ⟨rfl, rfl⟩
  cases hd : isDig b
  all_goals
    go_wp2_with fail
    all_goals go_ret2
    all_goals
      simp only [isDig, decide_eq_true_eq, decide_eq_false_iff_not] at hd
      refine ⟨?_, rfl⟩
      unfold hexr hexv
      repeat rw [if_neg (by omega)]
      first | rfl | (rw [if_pos (by omega)]; exact ret_ub (by omega) _) | fail

def partr (l : List UInt8) : Value := match part l with | none => .tuple #[.int .u8 0, .int .i64 0] | some x => .tuple #[.int .u8 x.1.toNat, .int .i64 (x.2 : Nat)]
def escp (l : List UInt8) : Value := match escd l with | none => .tuple #[.int .u8 0, .int .i64 0] | some x => .tuple #[.int .u8 x.1.toNat, .int .i64 ((x.2 : Int) + 1)]
set_option maxRecDepth 100000 in
set_option maxHeartbeats 8000000 in
theorem rpart_any (l : List UInt8) (w : World) (hl : l.length ≤ 1000000) : Calls Tryz.prog 128 #[.string (bs l)] w fun e w' => e = .returned (partr l) ∧ w' = w := by
  cases l with
  | nil =>
    go_enter Tryz.func128, Tryz.ntmps128
    go_wp2_with fail
    all_goals go_ret2
    all_goals exact ⟨rfl, rfl⟩
  | cons c r =>
    have hb := c.toNat_lt
    simp only [List.length_cons] at hl
    by_cases h1 : c.toNat < 32 ∨ c.toNat = 34
    · have hp : partr (c :: r) = .tuple #[.int .u8 0, .int .i64 0] := by unfold partr; rw [part_cons, if_pos h1]
      rw [hp]
      go_enter Tryz.func128, Tryz.ntmps128
      go_wp2_with fail
      all_goals go_ret2
      all_goals first | exact ⟨rfl, rfl⟩ | (exfalso; (try simp only [beq_iff_eq, bne_iff_ne, beq_eq_false_iff_ne, ne_eq, Bool.not_eq_true, decide_eq_true_eq, decide_eq_false_iff_not, Bool.or_eq_true, Bool.or_eq_false_iff, Bool.and_eq_true, Bool.and_eq_false_iff, bne_eq_false_iff_eq, Bool.not_eq_true', Bool.not_eq_false'] at *); omega) | fail
    · by_cases h2 : c.toNat = 92
      · have he : partr (c :: r) = escp r := by
          unfold partr escp; rw [part_cons, if_neg h1, if_neg (by simpa using h2)]; cases escd r <;> rfl
        rw [he]
        cases r with
        | nil =>
          have hv : escp [] = .tuple #[.int .u8 0, .int .i64 0] := rfl
          rw [hv]
          go_enter Tryz.func128, Tryz.ntmps128
          go_wp2_with fail
          all_goals go_ret2
          all_goals first | exact ⟨rfl, rfl⟩ | fail
        | cons d r =>
          simp only [List.length_cons] at hl
          have hd := d.toNat_lt
          by_cases d1 : d.toNat = 34 ∨ d.toNat = 92
          · have hv : escp (d :: r) = .tuple #[.int .u8 d.toNat, .int .i64 2] := by unfold escp; rw [escd_mark d r d1]; rfl
            rw [hv]
            go_enter Tryz.func128, Tryz.ntmps128
            go_wp2_with fail
            all_goals go_ret2
            all_goals first | exact ⟨rfl, rfl⟩ | fail
          by_cases d2 : d.toNat = 110
          · have hv : escp (d :: r) = .tuple #[.int .u8 10, .int .i64 2] := by unfold escp; rw [escd_n d r d2]; rfl
            rw [hv]
            go_enter Tryz.func128, Tryz.ntmps128
            go_wp2_with fail
            all_goals go_ret2
            all_goals first | exact ⟨rfl, rfl⟩ | fail
          by_cases d3 : d.toNat = 116
          · have hv : escp (d :: r) = .tuple #[.int .u8 9, .int .i64 2] := by unfold escp; rw [escd_t d r d3]; rfl
            rw [hv]
            go_enter Tryz.func128, Tryz.ntmps128
            go_wp2_with fail
            all_goals go_ret2
            all_goals first | exact ⟨rfl, rfl⟩ | fail
          by_cases d4 : d.toNat = 120
          · rcases r with _ | ⟨x, _ | ⟨y, r⟩⟩
            · have hv : escp [d] = .tuple #[.int .u8 0, .int .i64 0] := by unfold escp; rw [escd_x0 d d4]
              rw [hv]
              go_enter Tryz.func128, Tryz.ntmps128
              go_wp2_with fail
              all_goals go_ret2
              all_goals first | exact ⟨rfl, rfl⟩ | fail
            · have hv : escp [d, x] = .tuple #[.int .u8 0, .int .i64 0] := by unfold escp; rw [escd_x1 d x d4]
              rw [hv]
              go_enter Tryz.func128, Tryz.ntmps128
              go_wp2_with fail
              all_goals go_ret2
              all_goals first | exact ⟨rfl, rfl⟩ | fail
            · simp only [List.length_cons] at hl
              cases hx : hexv x with
              | none =>
                have hv : escp (d :: x :: y :: r) = .tuple #[.int .u8 0, .int .i64 0] := by unfold escp; rw [escd_x d x y r d4, hx]; rfl
                rw [hv]
                cases hy : hexv y with
                | none =>
                  go_enter Tryz.func128, Tryz.ntmps128
                  go_wp2_with fail
                  refine Calls.mono (rhalf_any x _) ?_
                  rintro e w1 ⟨rfl, rfl⟩
                  unfold hexr
                  rw [hx]
                  go_wp2_with fail
                  refine Calls.mono (rhalf_any y _) ?_
                  rintro e w2 ⟨rfl, rfl⟩
                  unfold hexr
                  rw [hy]
                  go_wp2_with fail
                  all_goals go_ret2
                  all_goals first | exact ⟨rfl, rfl⟩ | fail
                | some n =>
                  go_enter Tryz.func128, Tryz.ntmps128
                  go_wp2_with fail
                  refine Calls.mono (rhalf_any x _) ?_
                  rintro e w1 ⟨rfl, rfl⟩
                  unfold hexr
                  rw [hx]
                  go_wp2_with fail
                  refine Calls.mono (rhalf_any y _) ?_
                  rintro e w2 ⟨rfl, rfl⟩
                  unfold hexr
                  rw [hy]
                  go_wp2_with fail
                  all_goals go_ret2
                  all_goals first | exact ⟨rfl, rfl⟩ | fail
              | some m =>
                cases hy : hexv y with
                | none =>
                  have hv : escp (d :: x :: y :: r) = .tuple #[.int .u8 0, .int .i64 0] := by unfold escp; rw [escd_x d x y r d4, hx, hy]; rfl
                  rw [hv]
                  go_enter Tryz.func128, Tryz.ntmps128
                  go_wp2_with fail
                  refine Calls.mono (rhalf_any x _) ?_
                  rintro e w1 ⟨rfl, rfl⟩
                  unfold hexr
                  rw [hx]
                  go_wp2_with fail
                  refine Calls.mono (rhalf_any y _) ?_
                  rintro e w2 ⟨rfl, rfl⟩
                  unfold hexr
                  rw [hy]
                  go_wp2_with fail
                  all_goals go_ret2
                  all_goals first | exact ⟨rfl, rfl⟩ | fail
                | some n =>
                  have hv : escp (d :: x :: y :: r) = .tuple #[.int .u8 ((16 * m + n : Nat) : Int), .int .i64 4] := by
                    have hm := hexv_lt hx
                    have hn := hexv_lt hy
                    unfold escp; rw [escd_x d x y r d4, hx, hy]; simp; omega
                  rw [hv]
                  have hm := hexv_lt hx
                  have hn := hexv_lt hy
                  have x1 : IntKind.u8.wrap (16 * (m : Int)) = 16 * m := IntWalk.u8_in _ (by omega)
                  have x2 : IntKind.u8.wrap (16 * (m : Int) + n) = 16 * m + n := IntWalk.u8_in _ (by omega)
                  go_enter Tryz.func128, Tryz.ntmps128
                  go_wp2_with fail
                  refine Calls.mono (rhalf_any x _) ?_
                  rintro e w1 ⟨rfl, rfl⟩
                  unfold hexr
                  rw [hx]
                  go_wp2_with fail
                  refine Calls.mono (rhalf_any y _) ?_
                  rintro e w2 ⟨rfl, rfl⟩
                  unfold hexr
                  rw [hy]
                  go_wp2_with fail
                  all_goals go_ret2
                  all_goals first | exact ⟨rfl, rfl⟩ | fail
          · have hv : escp (d :: r) = .tuple #[.int .u8 0, .int .i64 0] := by unfold escp; rw [escd_no d r (by omega)]
            rw [hv]
            go_enter Tryz.func128, Tryz.ntmps128
            go_wp2_with fail
            all_goals go_ret2
            all_goals first | exact ⟨rfl, rfl⟩ | fail
      · have hp : partr (c :: r) = .tuple #[.int .u8 c.toNat, .int .i64 1] := by unfold partr; rw [part_cons, if_neg h1, if_pos h2]; rfl
        rw [hp]
        go_enter Tryz.func128, Tryz.ntmps128
        go_wp2_with fail
        all_goals go_ret2
        all_goals first | exact ⟨rfl, rfl⟩ | (exfalso; (try simp only [beq_iff_eq, bne_iff_ne, beq_eq_false_iff_ne, ne_eq, Bool.not_eq_true, decide_eq_true_eq, decide_eq_false_iff_not, Bool.or_eq_true, Bool.or_eq_false_iff, Bool.and_eq_true, Bool.and_eq_false_iff, bne_eq_false_iff_eq, Bool.not_eq_true', Bool.not_eq_false'] at *); omega) | fail
end Go.Proofs.YtkhhlmonhapmaaaGreatDoor
/- jobmuxmill.Mod: the remainder, from 0 on. -/
namespace Go.Proofs.YtkhhlmonhapmaaaGreatDoor
open Go.RowKit
set_option linter.unusedSimpArgs false
set_option linter.unusedVariables false
theorem tmod_neg {v n : Int} (hn : 0 < n) (h : v.tmod n < 0) : v.tmod n + n = v % n := by
  rw [Int.tmod_eq_emod] at *
  have := Int.emod_nonneg v (show n ≠ 0 by omega)
  split at h <;> rename_i hc <;> simp [hc] at *
  · omega
  · omega
theorem tmod_pos {v n : Int} (hn : 0 < n) (h : 0 ≤ v.tmod n) : v.tmod n = v % n := by
  rw [Int.tmod_eq_emod] at *
  have := Int.emod_lt_of_pos v hn
  split <;> rename_i hc <;> simp [hc] at *
  omega
theorem ret_i64 {a b : Int} (h : a = b) : Ending.returned (.int .i64 a) = .returned (.int .i64 b) := by rw [h]
set_option maxRecDepth 100000 in
set_option maxHeartbeats 800000 in
theorem mod_any (v n : Int) (w : World) (hn : 1 ≤ n) (hn2 : n ≤ 9223372036854775807) (hv : -9223372036854775808 ≤ v) (hv2 : v ≤ 9223372036854775807) :
    Calls Tryz.prog 20 #[.int .i64 v, .int .i64 n] w fun e w' => e = .returned (.int .i64 (v % n)) ∧ w = w' := by
  have h0 : ¬ n = 0 := by omega
  have h1 : v.tmod n < n := Int.tmod_lt_of_pos v (by omega)
  have h2 : -n < v.tmod n := by
    have := Int.lt_tmod_of_pos v (show 0 < n by omega); omega
  go_enter Tryz.func20, Tryz.ntmps20
  go_wp2
  all_goals go_ret
  · exact ⟨ret_i64 (tmod_neg (by omega) (by assumption)), rfl⟩
  · exact ⟨ret_i64 (tmod_pos (by omega) (by assumption)), rfl⟩
end Go.Proofs.YtkhhlmonhapmaaaGreatDoor
/- The reference of the lexer: where, skip, span. -/
namespace Go.Proofs.YtkhhlmonhapmaaaGreatDoor
open Go.RowKit
set_option linter.unusedSimpArgs false
set_option linter.unusedVariables false
theorem plc_app (p : Nat × Nat) (a b : List UInt8) : plc p (a ++ b) = plc (plc p a) b := by
  induction a generalizing p with
  | nil => rfl
  | cons c r ih => exact ih _
theorem plc_snoc (p : Nat × Nat) (l : List UInt8) (k : Nat) (h : k < l.length) : plc p (l.take (k + 1)) = if l[k].toNat = 10 then ((plc p (l.take k)).1 + 1, 1) else ((plc p (l.take k)).1, (plc p (l.take k)).2 + 1) := by
  rw [List.take_succ_eq_append_getElem h, plc_app]; rfl
theorem plc_le (p : Nat × Nat) (l : List UInt8) : (plc p l).1 ≤ p.1 + l.length ∧ (plc p l).2 ≤ p.2 + l.length + 1 := by
  induction l generalizing p with
  | nil => simp [plc]
  | cons c r ih =>
    have := ih (if c.toNat = 10 then (p.1 + 1, 1) else (p.1, p.2 + 1))
    simp only [plc, List.length_cons]
    split at this <;> rename_i hc <;> simp only [hc, if_true, if_false] <;> simp only at this <;> omega
set_option maxRecDepth 100000 in
set_option maxHeartbeats 800000 in
theorem rwhere_any (l : List UInt8) (n : Nat) (w : World) (hl : l.length ≤ 1000000) (hn : n ≤ l.length) : Calls Tryz.prog 58 #[.string (bs l), .int .i64 n] w fun e w' =>
    e = .returned (.tuple #[.int .i64 ((plc (1, 1) (l.take n)).1 : Nat), .int .i64 ((plc (1, 1) (l.take n)).2 : Nat)]) ∧ w' = w := by
  go_enter Tryz.func58, Tryz.ntmps58
  go_wp2_with fail
  go_loop [6, 7, 8] (fun a b i => ∃ k : Nat, k ≤ n ∧ i = .int .i64 k ∧ a = .int .i64 ((plc (1, 1) (l.take k)).1 : Nat) ∧ b = .int .i64 ((plc (1, 1) (l.take k)).2 : Nat)) (fun _ _ i => n - (intOf i).toNat)
  case atStart => exact ⟨0, by omega, rfl, rfl, rfl⟩
  case round =>
    obtain ⟨k, hk, rfl, rfl, rfl⟩ := hrel
    have hp := plc_le (1, 1) (l.take k)
    rw [List.length_take] at hp
    simp only at hp
    by_cases hlt : k < n
    · have hs := plc_snoc (1, 1) l k (by omega)
      by_cases h10 : l[k].toNat = 10
      · rw [if_pos h10] at hs
        have hs1 := Lib.hid (congrArg Prod.fst hs)
        have hs2 := Lib.hid (congrArg Prod.snd hs)
        clear hs
        go_wp2_with fail
        all_goals go_round
        case rel => exact ⟨k + 1, by omega, by go_num, by rw [hs1.out]; go_num, by rw [hs2.out]; rfl⟩
        case measure => simp [intOf]; omega
      · rw [if_neg h10] at hs
        have hs1 := Lib.hid (congrArg Prod.fst hs)
        have hs2 := Lib.hid (congrArg Prod.snd hs)
        clear hs
        have hb : ((l[k].toNat : Int) == 10) = false := by rw [beq_eq_false_iff_ne]; omega
        go_wp2_with fail
        all_goals go_round
        case rel => exact ⟨k + 1, by omega, by go_num, by rw [hs1.out], by rw [hs2.out]; go_num⟩
        case measure => simp [intOf]; omega
    · have : k = n := by omega
      subst this
      go_wp2_with fail
      go_ret2
      exact ⟨rfl, rfl⟩
set_option maxRecDepth 100000 in
set_option maxHeartbeats 800000 in
theorem rskip_any (l : List UInt8) (w : World) (hl : l.length ≤ 1000000) : Calls Tryz.prog 57 #[.string (bs l)] w fun e w' => e = .returned (.int .i64 (skp l : Nat)) ∧ w' = w := by
  go_enter Tryz.func57, Tryz.ntmps57
  go_wp2_with fail
  go_loop [3] (fun i => ∃ k : Nat, k ≤ l.length ∧ i = .int .i64 k ∧ Hid (skp l = k + skp (l.drop k))) (fun i => l.length - (intOf i).toNat)
  case atStart => exact ⟨0, by omega, rfl, Lib.hid (by simp)⟩
  case round =>
    obtain ⟨k, hk, rfl, hS⟩ := hrel
    by_cases hlt : k < l.length
    · have hd := Lib.hid (drop_cons hlt)
      by_cases h1 : l[k].toNat = 32 ∨ l[k].toNat = 9 ∨ l[k].toNat = 10 ∨ l[k].toNat = 13
      · have hS2 : Hid (skp l = (k + 1 : Nat) + skp (l.drop (k + 1))) := Lib.hid (by rw [hS.out, hd.out, skp_blank _ _ h1]; omega)
        clear hS hd
        go_wp2_with fail
        all_goals first | (go_round; (case rel => exact ⟨k + 1, by omega, by go_num, hS2⟩); (case measure => simp [intOf]; omega)) | (exfalso; (try simp only [beq_iff_eq, bne_iff_ne, beq_eq_false_iff_ne, ne_eq, Bool.not_eq_true, decide_eq_true_eq, decide_eq_false_iff_not, Bool.or_eq_true, Bool.or_eq_false_iff, Bool.and_eq_true, Bool.and_eq_false_iff, bne_eq_false_iff_eq, Bool.not_eq_true', Bool.not_eq_false'] at *); omega) | fail
      · by_cases h2 : l[k].toNat = 35
        · have hS2 : Hid (skp l = k + cmt (l.drop k) + skp (l.drop (k + cmt (l.drop k)))) := Lib.hid (by
            rw [hS.out, hd.out, skp_cmt _ _ h2, ← hd.out, List.drop_drop]; omega)
          clear hS hd
          have b1 : ((l[k].toNat : Int) == 32) = false := by rw [beq_eq_false_iff_ne]; omega
          have b2 : ((l[k].toNat : Int) == 9) = false := by rw [beq_eq_false_iff_ne]; omega
          have b3 : ((l[k].toNat : Int) == 10) = false := by rw [beq_eq_false_iff_ne]; omega
          have b4 : ((l[k].toNat : Int) == 13) = false := by rw [beq_eq_false_iff_ne]; omega
          go_wp2_with fail
          go_loop [3] (fun i => ∃ j : Nat, k ≤ j ∧ j ≤ l.length ∧ i = .int .i64 j ∧ Hid (skp l = j + cmt (l.drop j) + skp (l.drop (j + cmt (l.drop j)))) ∧ (j = k → l[k].toNat = 35)) (fun i => l.length - (intOf i).toNat)
          case atStart => exact ⟨k, by omega, hk, rfl, hS2, fun _ => h2⟩
          case round =>
            obtain ⟨j, hkj, hj, rfl, hJ, hj0⟩ := hrel
            by_cases hlj : j < l.length
            · have hd := Lib.hid (drop_cons hlj)
              by_cases h10 : l[j].toNat = 10
              · have hne : k < j := by
                  rcases Nat.lt_or_ge k j with h | h
                  · exact h
                  · have : j = k := by omega
                    subst this; omega
                have hJ2 : Hid (skp l = j + skp (l.drop j)) := Lib.hid (by
                  have := hJ.out
                  rw [hd.out, cmt_no _ _ h10, Nat.add_zero, hd.out] at this
                  rw [this, hd.out])
                clear hS2 hJ hd
                have c1 : ((l[j].toNat : Int) != 10) = false := by rw [bne_eq_false_iff_eq]; omega
                go_wp2_with fail
                go_round
                case rel => exact ⟨j, hj, rfl, hJ2⟩
                case measure => simp [intOf]; omega
              · have hJ2 : Hid (skp l = (j + 1 : Nat) + cmt (l.drop (j + 1)) + skp (l.drop ((j + 1 : Nat) + cmt (l.drop (j + 1))))) := Lib.hid (by
                  have := hJ.out
                  rw [hd.out, cmt_yes _ _ h10] at this
                  rw [this]
                  have e : j + (cmt (l.drop (j + 1)) + 1) = j + 1 + cmt (l.drop (j + 1)) := by omega
                  rw [e])
                clear hS2 hJ hd
                have c1 : ((l[j].toNat : Int) != 10) = true := by rw [bne_iff_ne]; omega
                go_wp2_with fail
                go_round
                case rel => exact ⟨j + 1, by omega, by omega, by go_num, hJ2, by omega⟩
                case measure => simp [intOf]; omega
            · have hne : k < j := by omega
              have hJ2 : Hid (skp l = j + skp (l.drop j)) := Lib.hid (by
                have := hJ.out
                rw [List.drop_eq_nil_of_le (show l.length ≤ j by omega)] at *
                simpa [cmt, List.drop_eq_nil_of_le (show l.length ≤ j by omega)] using this)
              clear hS2 hJ
              go_wp2_with fail
              go_round
              case rel => exact ⟨j, hj, rfl, hJ2⟩
              case measure => simp [intOf]; omega
        · have hS2 : Hid (skp l = k) := Lib.hid (by rw [hS.out, hd.out, skp_no _ _ h1 h2]; omega)
          clear hS hd
          have b1 : ((l[k].toNat : Int) == 32) = false := by rw [beq_eq_false_iff_ne]; omega
          have b2 : ((l[k].toNat : Int) == 9) = false := by rw [beq_eq_false_iff_ne]; omega
          have b3 : ((l[k].toNat : Int) == 10) = false := by rw [beq_eq_false_iff_ne]; omega
          have b4 : ((l[k].toNat : Int) == 13) = false := by rw [beq_eq_false_iff_ne]; omega
          have b5 : ((l[k].toNat : Int) == 35) = false := by rw [beq_eq_false_iff_ne]; omega
          go_wp2_with fail
          go_ret
          exact ⟨ret_i64 (by rw [hS2.out]), rfl⟩
    · have hS2 : Hid (skp l = k) := Lib.hid (by rw [hS.out, List.drop_eq_nil_of_le (by omega), skp_nil]; omega)
      clear hS
      go_wp2_with fail
      go_ret
      exact ⟨ret_i64 (by rw [hS2.out]), rfl⟩
end Go.Proofs.YtkhhlmonhapmaaaGreatDoor
/- Of the tokens of a text: laws. No program in sight. -/
namespace Go.Proofs.YtkhhlmonhapmaaaGreatDoor
open Go.RowKit
set_option linter.unusedSimpArgs false
set_option linter.unusedVariables false
theorem spn_nil (p : UInt8 → Bool) : spn p [] = 0 := rfl
theorem spn_yes (p : UInt8 → Bool) (c : UInt8) (r : List UInt8) (h : p c = true) : spn p (c :: r) = spn p r + 1 := by simp [spn, List.takeWhile_cons, h]
theorem spn_no (p : UInt8 → Bool) (c : UInt8) (r : List UInt8) (h : p c = false) : spn p (c :: r) = 0 := by simp [spn, List.takeWhile_cons, h]
theorem spn_le (p : UInt8 → Bool) (l : List UInt8) : spn p l ≤ l.length := (List.takeWhile_prefix p).length_le
theorem quo_nil : quo [] = none := by rw [quo]
theorem quo_end (c : UInt8) (r : List UInt8) (h : c.toNat = 34) : quo (c :: r) = some ([], 1) := by rw [quo, if_pos h]
theorem quo_no (c : UInt8) (r : List UInt8) (h : c.toNat ≠ 34) (h2 : part (c :: r) = none) : quo (c :: r) = none := by rw [quo, if_neg h, h2]
theorem quo_part (c : UInt8) (r : List UInt8) (b : UInt8) (n : Nat) (h : c.toNat ≠ 34) (h2 : part (c :: r) = some (b, n)) : quo (c :: r) = (quo ((c :: r).drop n)).map fun y => (b :: y.1, n + y.2) := by
  rw [quo, if_neg h, h2]; simp only []; rw [show max n 1 = n from by have := part_le h2; omega]
theorem quo_le (l : List UInt8) : ∀ x, quo l = some x → 1 ≤ x.2 ∧ x.2 ≤ l.length ∧ x.1.length < x.2 := by
  match h : l with
  | [] => intro x hx; rw [quo_nil] at hx; cases hx
  | c :: r =>
    intro x hx
    by_cases h1 : c.toNat = 34
    · rw [quo_end c r h1] at hx; cases hx; simp
    · cases hp : part (c :: r) with
      | none => rw [quo_no c r h1 hp] at hx; cases hx
      | some y =>
        obtain ⟨b, n⟩ := y
        have hle := part_le hp
        rw [quo_part c r b n h1 hp] at hx
        cases hq : quo ((c :: r).drop n) with
        | none => rw [hq] at hx; cases hx
        | some z =>
          have := quo_le ((c :: r).drop n) z hq
          rw [hq] at hx; cases hx
          simp only [List.length_drop, List.length_cons] at *; omega
termination_by l.length
decreasing_by subst h; simp; omega
theorem sla_nil : sla [] = none := by rw [sla]
theorem sla_end (c : UInt8) (r : List UInt8) (h : c.toNat = 47) : sla (c :: r) = some ([], 1) := by rw [sla.eq_def]; simp only [if_pos h]
theorem sla_bad (c : UInt8) (r : List UInt8) (h : c.toNat < 32) : sla (c :: r) = none := by rw [sla.eq_def]; simp only [if_neg (show ¬ c.toNat = 47 by omega), if_pos h]
theorem sla_last (c : UInt8) (h : c.toNat = 92) : sla [c] = none := by rw [sla, if_neg (by omega), if_neg (by omega), if_pos h]
theorem sla_bad2 (c d : UInt8) (r : List UInt8) (h : c.toNat = 92) (h2 : d.toNat < 32) : sla (c :: d :: r) = none := by rw [sla, if_neg (by omega), if_neg (by omega), if_pos h]; simp only [if_pos h2]
theorem sla_esc (c d : UInt8) (r : List UInt8) (h : c.toNat = 92) (h2 : d.toNat = 47) : sla (c :: d :: r) = (sla r).map fun x => (d :: x.1, 2 + x.2) := by
  rw [sla, if_neg (by omega), if_neg (by omega), if_pos h]; simp only [if_neg (show ¬ d.toNat < 32 by omega), if_pos h2]
theorem sla_two (c d : UInt8) (r : List UInt8) (h : c.toNat = 92) (h2 : 32 ≤ d.toNat) (h3 : d.toNat ≠ 47) : sla (c :: d :: r) = (sla r).map fun x => (c :: d :: x.1, 2 + x.2) := by
  rw [sla, if_neg (by omega), if_neg (by omega), if_pos h]; simp only [if_neg (show ¬ d.toNat < 32 by omega), if_neg h3]
theorem sla_one (c : UInt8) (r : List UInt8) (h : c.toNat ≠ 47) (h2 : 32 ≤ c.toNat) (h3 : c.toNat ≠ 92) : sla (c :: r) = (sla r).map fun x => (c :: x.1, 1 + x.2) := by
  rw [sla.eq_def]; simp only [if_neg h, if_neg (show ¬ c.toNat < 32 by omega), if_neg h3]
theorem sla_le (l : List UInt8) : ∀ x, sla l = some x → 1 ≤ x.2 ∧ x.2 ≤ l.length ∧ x.1.length < x.2 := by
  match h : l with
  | [] => intro x hx; rw [sla_nil] at hx; cases hx
  | c :: r =>
    intro x hx
    by_cases h1 : c.toNat = 47
    · rw [sla_end c r h1] at hx; cases hx; simp
    by_cases h2 : c.toNat < 32
    · rw [sla_bad c r h2] at hx; cases hx
    by_cases h3 : c.toNat = 92
    · match r, hx with
      | [], hx => rw [sla_last c h3] at hx; cases hx
      | d :: r, hx =>
        by_cases h4 : d.toNat < 32
        · rw [sla_bad2 c d r h3 h4] at hx; cases hx
        by_cases h5 : d.toNat = 47
        · rw [sla_esc c d r h3 h5] at hx
          cases hq : sla r with
          | none => rw [hq] at hx; cases hx
          | some z => have := sla_le r z hq; rw [hq] at hx; cases hx; simp only [List.length_cons]; omega
        · rw [sla_two c d r h3 (by omega) h5] at hx
          cases hq : sla r with
          | none => rw [hq] at hx; cases hx
          | some z => have := sla_le r z hq; rw [hq] at hx; cases hx; simp only [List.length_cons]; omega
    · rw [sla_one c r h1 (by omega) h3] at hx
      cases hq : sla r with
      | none => rw [hq] at hx; cases hx
      | some z => have := sla_le r z hq; rw [hq] at hx; cases hx; simp only [List.length_cons]; omega
termination_by l.length
decreasing_by
  all_goals subst h; simp; try omega
end Go.Proofs.YtkhhlmonhapmaaaGreatDoor
