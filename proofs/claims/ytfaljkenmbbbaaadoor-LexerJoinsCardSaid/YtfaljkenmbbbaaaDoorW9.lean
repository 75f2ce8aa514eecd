import Derived.Test.YtfaljkenmbbbaaaDoorW8
import Derived.Test.YtfaljkenmbbbaaaDoorW1
import Derived.Test.YtfaljkenmbbbaaaDoorW5
/- The reference of the lexer: letter, digit, half, part. -/
namespace Go.Proofs.YtfaljkenmbbbaaaDoor
open Go.RowKit
set_option linter.unusedSimpArgs false
set_option linter.unusedVariables false
theorem ret_bool {a b : Bool} (h : a = b) : Ending.returned (.bool a) = .returned (.bool b) := by rw [h]
theorem ret_ub {a b : Int} (h : a = b) (c : Bool) : Ending.returned (.tuple #[.int .u8 a, .bool c]) = .returned (.tuple #[.int .u8 b, .bool c]) := by rw [h]
set_option maxRecDepth 100000 in
set_option maxHeartbeats 800000 in
theorem rletter_any (b : UInt8) (w : World) : Calls Tryd.prog 43 #[.int .u8 b.toNat] w fun e w' => e = .returned (.bool (isLet b)) ∧ w' = w := by
  go_enter Tryd.func43, Tryd.ntmps43
  go_wp2_with fail
  all_goals go_ret
  all_goals unfold isLet
  all_goals exact ⟨ret_bool (by rw [Bool.eq_iff_iff]; simp only [Bool.or_eq_true, Bool.and_eq_true, decide_eq_true_eq, beq_iff_eq, bne_iff_ne, Bool.not_eq_true, Bool.not_eq_true', decide_eq_false_iff_not, reduceCtorEq, iff_true, true_iff, iff_false, false_iff, Bool.false_eq_true, ne_eq] <;> omega), rfl⟩
set_option maxRecDepth 100000 in
set_option maxHeartbeats 800000 in
theorem rdigit_any (b : UInt8) (w : World) : Calls Tryd.prog 45 #[.int .u8 b.toNat] w fun e w' => e = .returned (.bool (isDig b)) ∧ w' = w := by
  go_enter Tryd.func45, Tryd.ntmps45
  go_wp2_with fail
  all_goals go_ret
  all_goals unfold isDig
  all_goals exact ⟨ret_bool (by rw [Bool.eq_iff_iff]; simp only [Bool.or_eq_true, Bool.and_eq_true, decide_eq_true_eq, beq_iff_eq, bne_iff_ne, Bool.not_eq_true, Bool.not_eq_true', decide_eq_false_iff_not, reduceCtorEq, iff_true, true_iff, iff_false, false_iff, Bool.false_eq_true, ne_eq] <;> omega), rfl⟩
/-- What half returns. -/
def hexr (b : UInt8) : Value := match hexv b with | none => .tuple #[.int .u8 0, .bool false] | some n => .tuple #[.int .u8 (n : Nat), .bool true]
set_option maxRecDepth 100000 in
set_option maxHeartbeats 800000 in
theorem rhalf_any (b : UInt8) (w : World) : Calls Tryd.prog 81 #[.int .u8 b.toNat] w fun e w' => e = .returned (hexr b) ∧ w' = w := by
  have hb := b.toNat_lt
  go_enter Tryd.func81, Tryd.ntmps81
  go_wp2_with fail
  refine Calls.mono (rdigit_any b _) ?_
  rintro e w1 ⟨rfl, rfl⟩
  cases hd : isDig b
  all_goals
    go_wp2_with fail
    all_goals go_ret2
    all_goals
      simp only [isDig, decide_eq_true_eq, decide_eq_false_iff_not] at hd
      refine ⟨?_, rfl⟩
      unfold hexr hexv
      repeat rw [if_neg (by omega)]
      first | rfl | (rw [if_pos (by omega)]; exact ret_ub (by omega) _)

/-- What part returns. -/
def partr (l : List UInt8) : Value := match part l with | none => .tuple #[.int .u8 0, .int .i64 0] | some x => .tuple #[.int .u8 x.1.toNat, .int .i64 (x.2 : Nat)]
def escp (l : List UInt8) : Value := match escd l with | none => .tuple #[.int .u8 0, .int .i64 0] | some x => .tuple #[.int .u8 x.1.toNat, .int .i64 ((x.2 : Int) + 1)]
set_option maxRecDepth 100000 in
set_option maxHeartbeats 8000000 in
theorem rpart_any (l : List UInt8) (w : World) (hl : l.length ≤ 1000000) : Calls Tryd.prog 65 #[.string (bs l)] w fun e w' => e = .returned (partr l) ∧ w' = w := by
  cases l with
  | nil =>
    go_enter Tryd.func65, Tryd.ntmps65
    go_wp2_with fail
    all_goals go_ret2
    all_goals exact ⟨rfl, rfl⟩
  | cons c r =>
    have hb := c.toNat_lt
    simp only [List.length_cons] at hl
    by_cases h1 : c.toNat < 32 ∨ c.toNat = 34
    · have hp : partr (c :: r) = .tuple #[.int .u8 0, .int .i64 0] := by unfold partr; rw [part_cons, if_pos h1]
      rw [hp]
      go_enter Tryd.func65, Tryd.ntmps65
      go_wp2_with fail
      all_goals go_ret2
      all_goals first | exact ⟨rfl, rfl⟩ | (exfalso; (try simp only [beq_iff_eq, bne_iff_ne, beq_eq_false_iff_ne, ne_eq, Bool.not_eq_true, decide_eq_true_eq, decide_eq_false_iff_not, Bool.or_eq_true, Bool.or_eq_false_iff, Bool.and_eq_true, Bool.and_eq_false_iff, bne_eq_false_iff_eq, Bool.not_eq_true', Bool.not_eq_false'] at *); omega)
    · by_cases h2 : c.toNat = 92
      · have he : partr (c :: r) = escp r := by
          unfold partr escp; rw [part_cons, if_neg h1, if_neg (by simpa using h2)]; cases escd r <;> rfl
        rw [he]
        cases r with
        | nil =>
          have hv : escp [] = .tuple #[.int .u8 0, .int .i64 0] := rfl
          rw [hv]
          go_enter Tryd.func65, Tryd.ntmps65
          go_wp2_with fail
          all_goals go_ret2
          all_goals first | exact ⟨rfl, rfl⟩ | (exfalso; (try simp only [beq_iff_eq, bne_iff_ne, beq_eq_false_iff_ne, ne_eq, Bool.not_eq_true, decide_eq_true_eq, decide_eq_false_iff_not, Bool.or_eq_true, Bool.or_eq_false_iff, Bool.and_eq_true, Bool.and_eq_false_iff, bne_eq_false_iff_eq, Bool.not_eq_true', Bool.not_eq_false'] at *); omega)
        | cons d r =>
          simp only [List.length_cons] at hl
          have hd := d.toNat_lt
          by_cases d1 : d.toNat = 34 ∨ d.toNat = 92
          · have hv : escp (d :: r) = .tuple #[.int .u8 d.toNat, .int .i64 2] := by unfold escp; rw [escd_mark d r d1]; rfl
            rw [hv]
            go_enter Tryd.func65, Tryd.ntmps65
            go_wp2_with fail
            all_goals go_ret2
            all_goals first | exact ⟨rfl, rfl⟩ | (exfalso; (try simp only [beq_iff_eq, bne_iff_ne, beq_eq_false_iff_ne, ne_eq, Bool.not_eq_true, decide_eq_true_eq, decide_eq_false_iff_not, Bool.or_eq_true, Bool.or_eq_false_iff, Bool.and_eq_true, Bool.and_eq_false_iff, bne_eq_false_iff_eq, Bool.not_eq_true', Bool.not_eq_false'] at *); omega)
          by_cases d2 : d.toNat = 110
          · have hv : escp (d :: r) = .tuple #[.int .u8 10, .int .i64 2] := by unfold escp; rw [escd_n d r d2]; rfl
            rw [hv]
            go_enter Tryd.func65, Tryd.ntmps65
            go_wp2_with fail
            all_goals go_ret2
            all_goals first | exact ⟨rfl, rfl⟩ | (exfalso; (try simp only [beq_iff_eq, bne_iff_ne, beq_eq_false_iff_ne, ne_eq, Bool.not_eq_true, decide_eq_true_eq, decide_eq_false_iff_not, Bool.or_eq_true, Bool.or_eq_false_iff, Bool.and_eq_true, Bool.and_eq_false_iff, bne_eq_false_iff_eq, Bool.not_eq_true', Bool.not_eq_false'] at *); omega)
          by_cases d3 : d.toNat = 116
          · have hv : escp (d :: r) = .tuple #[.int .u8 9, .int .i64 2] := by unfold escp; rw [escd_t d r d3]; rfl
            rw [hv]
            go_enter Tryd.func65, Tryd.ntmps65
            go_wp2_with fail
            all_goals go_ret2
            all_goals first | exact ⟨rfl, rfl⟩ | (exfalso; (try simp only [beq_iff_eq, bne_iff_ne, beq_eq_false_iff_ne, ne_eq, Bool.not_eq_true, decide_eq_true_eq, decide_eq_false_iff_not, Bool.or_eq_true, Bool.or_eq_false_iff, Bool.and_eq_true, Bool.and_eq_false_iff, bne_eq_false_iff_eq, Bool.not_eq_true', Bool.not_eq_false'] at *); omega)
          by_cases d4 : d.toNat = 120
          · rcases r with _ | ⟨x, _ | ⟨y, r⟩⟩
            · have hv : escp [d] = .tuple #[.int .u8 0, .int .i64 0] := by unfold escp; rw [escd_x0 d d4]
              rw [hv]
              go_enter Tryd.func65, Tryd.ntmps65
              go_wp2_with fail
              all_goals go_ret2
              all_goals first | exact ⟨rfl, rfl⟩ | (exfalso; (try simp only [beq_iff_eq, bne_iff_ne, beq_eq_false_iff_ne, ne_eq, Bool.not_eq_true, decide_eq_true_eq, decide_eq_false_iff_not, Bool.or_eq_true, Bool.or_eq_false_iff, Bool.and_eq_true, Bool.and_eq_false_iff, bne_eq_false_iff_eq, Bool.not_eq_true', Bool.not_eq_false'] at *); omega)
            · have hv : escp [d, x] = .tuple #[.int .u8 0, .int .i64 0] := by unfold escp; rw [escd_x1 d x d4]
              rw [hv]
              go_enter Tryd.func65, Tryd.ntmps65
              go_wp2_with fail
              all_goals go_ret2
              all_goals first | exact ⟨rfl, rfl⟩ | (exfalso; (try simp only [beq_iff_eq, bne_iff_ne, beq_eq_false_iff_ne, ne_eq, Bool.not_eq_true, decide_eq_true_eq, decide_eq_false_iff_not, Bool.or_eq_true, Bool.or_eq_false_iff, Bool.and_eq_true, Bool.and_eq_false_iff, bne_eq_false_iff_eq, Bool.not_eq_true', Bool.not_eq_false'] at *); omega)
            · simp only [List.length_cons] at hl
              cases hx : hexv x with
              | none =>
                have hv : escp (d :: x :: y :: r) = .tuple #[.int .u8 0, .int .i64 0] := by unfold escp; rw [escd_x d x y r d4, hx]; rfl
                rw [hv]
                cases hy : hexv y with
                | none =>
                  go_enter Tryd.func65, Tryd.ntmps65
                  go_wp2_with fail
                  refine Calls.mono (rhalf_any x _) ?_
                  rintro e w1 ⟨rfl, rfl⟩
                  unfold hexr
                  rw [hx]
                  go_wp2_with fail
                  refine Calls.mono (rhalf_any y _) ?_
                  rintro e w2 ⟨rfl, rfl⟩
                  unfold hexr
                  rw [hy]
                  go_wp2_with fail
                  all_goals go_ret2
                  all_goals first | exact ⟨rfl, rfl⟩ | exact ⟨by simp, rfl⟩ | (exfalso; (try simp only [beq_iff_eq, bne_iff_ne, beq_eq_false_iff_ne, ne_eq, Bool.not_eq_true, decide_eq_true_eq, decide_eq_false_iff_not, Bool.or_eq_true, Bool.or_eq_false_iff, Bool.and_eq_true, Bool.and_eq_false_iff, bne_eq_false_iff_eq, Bool.not_eq_true', Bool.not_eq_false'] at *); omega) | trace_state
                | some n =>
                  go_enter Tryd.func65, Tryd.ntmps65
                  go_wp2_with fail
                  refine Calls.mono (rhalf_any x _) ?_
                  rintro e w1 ⟨rfl, rfl⟩
                  unfold hexr
                  rw [hx]
                  go_wp2_with fail
                  refine Calls.mono (rhalf_any y _) ?_
                  rintro e w2 ⟨rfl, rfl⟩
                  unfold hexr
                  rw [hy]
                  go_wp2_with fail
                  all_goals go_ret2
                  all_goals first | exact ⟨rfl, rfl⟩ | exact ⟨by simp, rfl⟩ | (exfalso; (try simp only [beq_iff_eq, bne_iff_ne, beq_eq_false_iff_ne, ne_eq, Bool.not_eq_true, decide_eq_true_eq, decide_eq_false_iff_not, Bool.or_eq_true, Bool.or_eq_false_iff, Bool.and_eq_true, Bool.and_eq_false_iff, bne_eq_false_iff_eq, Bool.not_eq_true', Bool.not_eq_false'] at *); omega) | trace_state
              | some m =>
                cases hy : hexv y with
                | none =>
                  have hv : escp (d :: x :: y :: r) = .tuple #[.int .u8 0, .int .i64 0] := by unfold escp; rw [escd_x d x y r d4, hx, hy]; rfl
                  rw [hv]
                  go_enter Tryd.func65, Tryd.ntmps65
                  go_wp2_with fail
                  refine Calls.mono (rhalf_any x _) ?_
                  rintro e w1 ⟨rfl, rfl⟩
                  unfold hexr
                  rw [hx]
                  go_wp2_with fail
                  refine Calls.mono (rhalf_any y _) ?_
                  rintro e w2 ⟨rfl, rfl⟩
                  unfold hexr
                  rw [hy]
                  go_wp2_with fail
                  all_goals go_ret2
                  all_goals first | exact ⟨rfl, rfl⟩ | exact ⟨by simp, rfl⟩ | (exfalso; (try simp only [beq_iff_eq, bne_iff_ne, beq_eq_false_iff_ne, ne_eq, Bool.not_eq_true, decide_eq_true_eq, decide_eq_false_iff_not, Bool.or_eq_true, Bool.or_eq_false_iff, Bool.and_eq_true, Bool.and_eq_false_iff, bne_eq_false_iff_eq, Bool.not_eq_true', Bool.not_eq_false'] at *); omega) | trace_state
                | some n =>
                  have hv : escp (d :: x :: y :: r) = .tuple #[.int .u8 ((16 * m + n : Nat) : Int), .int .i64 4] := by
                    have hm := hexv_lt hx
                    have hn := hexv_lt hy
                    unfold escp; rw [escd_x d x y r d4, hx, hy]; simp; omega
                  rw [hv]
                  have hm := hexv_lt hx
                  have hn := hexv_lt hy
                  have x1 : IntKind.u8.wrap (16 * (m : Int)) = 16 * m := IntWalk.u8_in _ (by omega)
                  have x2 : IntKind.u8.wrap (16 * (m : Int) + n) = 16 * m + n := IntWalk.u8_in _ (by omega)
                  go_enter Tryd.func65, Tryd.ntmps65
                  go_wp2_with fail
                  refine Calls.mono (rhalf_any x _) ?_
                  rintro e w1 ⟨rfl, rfl⟩
                  unfold hexr
                  rw [hx]
                  go_wp2_with fail
                  refine Calls.mono (rhalf_any y _) ?_
                  rintro e w2 ⟨rfl, rfl⟩
                  unfold hexr
                  rw [hy]
                  go_wp2_with fail
                  all_goals go_ret2
                  all_goals first | exact ⟨rfl, rfl⟩ | exact ⟨by simp, rfl⟩ | (exfalso; (try simp only [beq_iff_eq, bne_iff_ne, beq_eq_false_iff_ne, ne_eq, Bool.not_eq_true, decide_eq_true_eq, decide_eq_false_iff_not, Bool.or_eq_true, Bool.or_eq_false_iff, Bool.and_eq_true, Bool.and_eq_false_iff, bne_eq_false_iff_eq, Bool.not_eq_true', Bool.not_eq_false'] at *); omega) | trace_state
          · have hv : escp (d :: r) = .tuple #[.int .u8 0, .int .i64 0] := by unfold escp; rw [escd_no d r (by omega)]
            rw [hv]
            go_enter Tryd.func65, Tryd.ntmps65
            go_wp2_with fail
            all_goals go_ret2
            all_goals first | exact ⟨rfl, rfl⟩ | (exfalso; (try simp only [beq_iff_eq, bne_iff_ne, beq_eq_false_iff_ne, ne_eq, Bool.not_eq_true, decide_eq_true_eq, decide_eq_false_iff_not, Bool.or_eq_true, Bool.or_eq_false_iff, Bool.and_eq_true, Bool.and_eq_false_iff, bne_eq_false_iff_eq, Bool.not_eq_true', Bool.not_eq_false'] at *); omega)
      · have hp : partr (c :: r) = .tuple #[.int .u8 c.toNat, .int .i64 1] := by unfold partr; rw [part_cons, if_neg h1, if_pos h2]; rfl
        rw [hp]
        go_enter Tryd.func65, Tryd.ntmps65
        go_wp2_with fail
        all_goals go_ret2
        all_goals first | exact ⟨rfl, rfl⟩ | (exfalso; (try simp only [beq_iff_eq, bne_iff_ne, beq_eq_false_iff_ne, ne_eq, Bool.not_eq_true, decide_eq_true_eq, decide_eq_false_iff_not, Bool.or_eq_true, Bool.or_eq_false_iff, Bool.and_eq_true, Bool.and_eq_false_iff, bne_eq_false_iff_eq, Bool.not_eq_true', Bool.not_eq_false'] at *); omega)
end Go.Proofs.YtfaljkenmbbbaaaDoor
/- The reference of the lexer: where, skip, span. -/
namespace Go.Proofs.YtfaljkenmbbbaaaDoor
open Go.RowKit
set_option linter.unusedSimpArgs false
set_option linter.unusedVariables false
theorem ret_ii {a b c d : Int} (h : a = b) (k : c = d) : Ending.returned (.tuple #[.int .i64 a, .int .i64 c]) = .returned (.tuple #[.int .i64 b, .int .i64 d]) := by rw [h, k]
theorem plc_app (p : Nat × Nat) (a b : List UInt8) : plc p (a ++ b) = plc (plc p a) b := by
  induction a generalizing p with
  | nil => rfl
  | cons c r ih => exact ih _
theorem plc_snoc (p : Nat × Nat) (l : List UInt8) (k : Nat) (h : k < l.length) : plc p (l.take (k + 1)) = if l[k].toNat = 10 then ((plc p (l.take k)).1 + 1, 1) else ((plc p (l.take k)).1, (plc p (l.take k)).2 + 1) := by
  rw [List.take_succ_eq_append_getElem h, plc_app]; rfl
theorem plc_le (p : Nat × Nat) (l : List UInt8) : (plc p l).1 ≤ p.1 + l.length ∧ (plc p l).2 ≤ p.2 + l.length + 1 := by
  induction l generalizing p with
  | nil => simp [plc]
  | cons c r ih =>
    have := ih (if c.toNat = 10 then (p.1 + 1, 1) else (p.1, p.2 + 1))
    simp only [plc, List.length_cons]
    split at this <;> rename_i hc <;> simp only [hc, if_true, if_false] <;> simp only at this <;> omega
set_option maxRecDepth 100000 in
set_option maxHeartbeats 800000 in
theorem rwhere_any (l : List UInt8) (n : Nat) (w : World) (hl : l.length ≤ 1000000) (hn : n ≤ l.length) : Calls Tryd.prog 25 #[.string (bs l), .int .i64 n] w fun e w' =>
    e = .returned (.tuple #[.int .i64 ((plc (1, 1) (l.take n)).1 : Nat), .int .i64 ((plc (1, 1) (l.take n)).2 : Nat)]) ∧ w' = w := by
  go_enter Tryd.func25, Tryd.ntmps25
  go_wp2_with fail
  go_loop [6, 7, 8] (fun a b i => ∃ k : Nat, k ≤ n ∧ i = .int .i64 k ∧ a = .int .i64 ((plc (1, 1) (l.take k)).1 : Nat) ∧ b = .int .i64 ((plc (1, 1) (l.take k)).2 : Nat)) (fun _ _ i => n - (intOf i).toNat)
  case atStart => exact ⟨0, by omega, rfl, rfl, rfl⟩
  case round =>
    obtain ⟨k, hk, rfl, rfl, rfl⟩ := hrel
    have hp := plc_le (1, 1) (l.take k)
    rw [List.length_take] at hp
    simp only at hp
    by_cases hlt : k < n
    · have hs := plc_snoc (1, 1) l k (by omega)
      by_cases h10 : l[k].toNat = 10
      · rw [if_pos h10] at hs
        have hs1 := Lib.hid (congrArg Prod.fst hs)
        have hs2 := Lib.hid (congrArg Prod.snd hs)
        clear hs
        go_wp2_with fail
        all_goals go_round
        case rel => exact ⟨k + 1, by omega, by go_num, by rw [hs1.out]; go_num, by rw [hs2.out]; rfl⟩
        case measure => simp [intOf]; omega
      · rw [if_neg h10] at hs
        have hs1 := Lib.hid (congrArg Prod.fst hs)
        have hs2 := Lib.hid (congrArg Prod.snd hs)
        clear hs
        have hb : ((l[k].toNat : Int) == 10) = false := by rw [beq_eq_false_iff_ne]; omega
        go_wp2_with fail
        all_goals go_round
        case rel => exact ⟨k + 1, by omega, by go_num, by rw [hs1.out], by rw [hs2.out]; go_num⟩
        case measure => simp [intOf]; omega
    · have : k = n := by omega
      subst this
      go_wp2_with fail
      go_ret2
      exact ⟨rfl, rfl⟩
theorem skp_le (l : List UInt8) : skp l ≤ l.length := by
  match h : l with
  | [] => rw [skp_nil]; exact Nat.le_refl _
  | c :: r =>
    by_cases h1 : c.toNat = 32 ∨ c.toNat = 9 ∨ c.toNat = 10 ∨ c.toNat = 13
    · have := skp_le r
      rw [skp_blank c r h1]; simp; omega
    · by_cases h2 : c.toNat = 35
      · have h3 := cmt_le (c :: r)
        have h4 := cmt_yes c r (by omega)
        have := skp_le ((c :: r).drop (cmt (c :: r)))
        rw [skp_cmt c r h2]
        simp only [List.length_drop, List.length_cons] at *; omega
      · rw [skp_no c r h1 h2]; omega
termination_by l.length
decreasing_by
  all_goals subst h; simp; try omega
set_option maxRecDepth 100000 in
set_option maxHeartbeats 800000 in
theorem rskip_any (l : List UInt8) (w : World) (hl : l.length ≤ 1000000) : Calls Tryd.prog 24 #[.string (bs l)] w fun e w' => e = .returned (.int .i64 (skp l : Nat)) ∧ w' = w := by
  go_enter Tryd.func24, Tryd.ntmps24
  go_wp2_with fail
  go_loop [3] (fun i => ∃ k : Nat, k ≤ l.length ∧ i = .int .i64 k ∧ Hid (skp l = k + skp (l.drop k))) (fun i => l.length - (intOf i).toNat)
  case atStart => exact ⟨0, by omega, rfl, Lib.hid (by simp)⟩
  case round =>
    obtain ⟨k, hk, rfl, hS⟩ := hrel
    by_cases hlt : k < l.length
    · have hd := Lib.hid (drop_cons hlt)
      by_cases h1 : l[k].toNat = 32 ∨ l[k].toNat = 9 ∨ l[k].toNat = 10 ∨ l[k].toNat = 13
      · have hS2 : Hid (skp l = (k + 1 : Nat) + skp (l.drop (k + 1))) := Lib.hid (by rw [hS.out, hd.out, skp_blank _ _ h1]; omega)
        clear hS hd
        go_wp2_with fail
        all_goals first | (go_round; (case rel => exact ⟨k + 1, by omega, by go_num, hS2⟩); (case measure => simp [intOf]; omega)) | (exfalso; (try simp only [beq_iff_eq, bne_iff_ne, beq_eq_false_iff_ne, ne_eq, Bool.not_eq_true, decide_eq_true_eq, decide_eq_false_iff_not, Bool.or_eq_true, Bool.or_eq_false_iff, Bool.and_eq_true, Bool.and_eq_false_iff, bne_eq_false_iff_eq, Bool.not_eq_true', Bool.not_eq_false'] at *); omega)
      · by_cases h2 : l[k].toNat = 35
        · have hS2 : Hid (skp l = k + cmt (l.drop k) + skp (l.drop (k + cmt (l.drop k)))) := Lib.hid (by
            rw [hS.out, hd.out, skp_cmt _ _ h2, ← hd.out, List.drop_drop]; omega)
          clear hS hd
          have b1 : ((l[k].toNat : Int) == 32) = false := by rw [beq_eq_false_iff_ne]; omega
          have b2 : ((l[k].toNat : Int) == 9) = false := by rw [beq_eq_false_iff_ne]; omega
          have b3 : ((l[k].toNat : Int) == 10) = false := by rw [beq_eq_false_iff_ne]; omega
          have b4 : ((l[k].toNat : Int) == 13) = false := by rw [beq_eq_false_iff_ne]; omega
          go_wp2_with fail
          go_loop [3] (fun i => ∃ j : Nat, k ≤ j ∧ j ≤ l.length ∧ i = .int .i64 j ∧ Hid (skp l = j + cmt (l.drop j) + skp (l.drop (j + cmt (l.drop j)))) ∧ (j = k → l[k].toNat = 35)) (fun i => l.length - (intOf i).toNat)
          case atStart => exact ⟨k, by omega, hk, rfl, hS2, fun _ => h2⟩
          case round =>
            obtain ⟨j, hkj, hj, rfl, hJ, hj0⟩ := hrel
            by_cases hlj : j < l.length
            · have hd := Lib.hid (drop_cons hlj)
              by_cases h10 : l[j].toNat = 10
              · have hne : k < j := by
                  rcases Nat.lt_or_ge k j with h | h
                  · exact h
                  · have : j = k := by omega
                    subst this; omega
                have hJ2 : Hid (skp l = j + skp (l.drop j)) := Lib.hid (by
                  have := hJ.out
                  rw [hd.out, cmt_no _ _ h10, Nat.add_zero, hd.out] at this
                  rw [this, hd.out])
                clear hS2 hJ hd
                have c1 : ((l[j].toNat : Int) != 10) = false := by rw [bne_eq_false_iff_eq]; omega
                go_wp2_with fail
                go_round
                case rel => exact ⟨j, hj, rfl, hJ2⟩
                case measure => simp [intOf]; omega
              · have hJ2 : Hid (skp l = (j + 1 : Nat) + cmt (l.drop (j + 1)) + skp (l.drop ((j + 1 : Nat) + cmt (l.drop (j + 1))))) := Lib.hid (by
                  have := hJ.out
                  rw [hd.out, cmt_yes _ _ h10] at this
                  rw [this]
                  have e : j + (cmt (l.drop (j + 1)) + 1) = j + 1 + cmt (l.drop (j + 1)) := by omega
                  rw [e])
                clear hS2 hJ hd
                have c1 : ((l[j].toNat : Int) != 10) = true := by rw [bne_iff_ne]; omega
                go_wp2_with fail
                go_round
                case rel => exact ⟨j + 1, by omega, by omega, by go_num, hJ2, by omega⟩
                case measure => simp [intOf]; omega
            · have hne : k < j := by omega
              have hJ2 : Hid (skp l = j + skp (l.drop j)) := Lib.hid (by
                have := hJ.out
                rw [List.drop_eq_nil_of_le (show l.length ≤ j by omega)] at *
                simpa [cmt, List.drop_eq_nil_of_le (show l.length ≤ j by omega)] using this)
              clear hS2 hJ
              go_wp2_with fail
              go_round
              case rel => exact ⟨j, hj, rfl, hJ2⟩
              case measure => simp [intOf]; omega
        · have hS2 : Hid (skp l = k) := Lib.hid (by rw [hS.out, hd.out, skp_no _ _ h1 h2]; omega)
          clear hS hd
          have b1 : ((l[k].toNat : Int) == 32) = false := by rw [beq_eq_false_iff_ne]; omega
          have b2 : ((l[k].toNat : Int) == 9) = false := by rw [beq_eq_false_iff_ne]; omega
          have b3 : ((l[k].toNat : Int) == 10) = false := by rw [beq_eq_false_iff_ne]; omega
          have b4 : ((l[k].toNat : Int) == 13) = false := by rw [beq_eq_false_iff_ne]; omega
          have b5 : ((l[k].toNat : Int) == 35) = false := by rw [beq_eq_false_iff_ne]; omega
          go_wp2_with fail
          go_ret
          exact ⟨ret_i64 (by rw [hS2.out]), rfl⟩
    · have hS2 : Hid (skp l = k) := Lib.hid (by rw [hS.out, List.drop_eq_nil_of_le (by omega), skp_nil]; omega)
      clear hS
      go_wp2_with fail
      go_ret
      exact ⟨ret_i64 (by rw [hS2.out]), rfl⟩
end Go.Proofs.YtfaljkenmbbbaaaDoor
/- Of the tokens of a text: laws. No program in sight. -/
namespace Go.Proofs.YtfaljkenmbbbaaaDoor
open Go.RowKit
set_option linter.unusedSimpArgs false
set_option linter.unusedVariables false
theorem spn_nil (p : UInt8 → Bool) : spn p [] = 0 := rfl
theorem spn_yes (p : UInt8 → Bool) (c : UInt8) (r : List UInt8) (h : p c = true) : spn p (c :: r) = spn p r + 1 := by simp [spn, List.takeWhile_cons, h]
theorem spn_no (p : UInt8 → Bool) (c : UInt8) (r : List UInt8) (h : p c = false) : spn p (c :: r) = 0 := by simp [spn, List.takeWhile_cons, h]
theorem spn_le (p : UInt8 → Bool) (l : List UInt8) : spn p l ≤ l.length := (List.takeWhile_prefix p).length_le
theorem quo_nil : quo [] = none := by rw [quo]
theorem quo_end (c : UInt8) (r : List UInt8) (h : c.toNat = 34) : quo (c :: r) = some ([], 1) := by rw [quo, if_pos h]
theorem quo_no (c : UInt8) (r : List UInt8) (h : c.toNat ≠ 34) (h2 : part (c :: r) = none) : quo (c :: r) = none := by rw [quo, if_neg h, h2]
theorem quo_part (c : UInt8) (r : List UInt8) (b : UInt8) (n : Nat) (h : c.toNat ≠ 34) (h2 : part (c :: r) = some (b, n)) : quo (c :: r) = (quo ((c :: r).drop n)).map fun y => (b :: y.1, n + y.2) := by
  rw [quo, if_neg h, h2]; simp only []; rw [show max n 1 = n from by have := part_le h2; omega]
theorem quo_le (l : List UInt8) : ∀ x, quo l = some x → 1 ≤ x.2 ∧ x.2 ≤ l.length ∧ x.1.length < x.2 := by
  match h : l with
  | [] => intro x hx; rw [quo_nil] at hx; cases hx
  | c :: r =>
    intro x hx
    by_cases h1 : c.toNat = 34
    · rw [quo_end c r h1] at hx; cases hx; simp
    · cases hp : part (c :: r) with
      | none => rw [quo_no c r h1 hp] at hx; cases hx
      | some y =>
        obtain ⟨b, n⟩ := y
        have hle := part_le hp
        rw [quo_part c r b n h1 hp] at hx
        cases hq : quo ((c :: r).drop n) with
        | none => rw [hq] at hx; cases hx
        | some z =>
          have := quo_le ((c :: r).drop n) z hq
          rw [hq] at hx; cases hx
          simp only [List.length_drop, List.length_cons] at *; omega
termination_by l.length
decreasing_by subst h; simp; omega
theorem sla_nil : sla [] = none := by rw [sla]
theorem sla_end (c : UInt8) (r : List UInt8) (h : c.toNat = 47) : sla (c :: r) = some ([], 1) := by rw [sla.eq_def]; simp only [if_pos h]
theorem sla_bad (c : UInt8) (r : List UInt8) (h : c.toNat < 32) : sla (c :: r) = none := by rw [sla.eq_def]; simp only [if_neg (show ¬ c.toNat = 47 by omega), if_pos h]
theorem sla_last (c : UInt8) (h : c.toNat = 92) : sla [c] = none := by rw [sla, if_neg (by omega), if_neg (by omega), if_pos h]
theorem sla_bad2 (c d : UInt8) (r : List UInt8) (h : c.toNat = 92) (h2 : d.toNat < 32) : sla (c :: d :: r) = none := by rw [sla, if_neg (by omega), if_neg (by omega), if_pos h]; simp only [if_pos h2]
theorem sla_esc (c d : UInt8) (r : List UInt8) (h : c.toNat = 92) (h2 : d.toNat = 47) : sla (c :: d :: r) = (sla r).map fun x => (d :: x.1, 2 + x.2) := by
  rw [sla, if_neg (by omega), if_neg (by omega), if_pos h]; simp only [if_neg (show ¬ d.toNat < 32 by omega), if_pos h2]
theorem sla_two (c d : UInt8) (r : List UInt8) (h : c.toNat = 92) (h2 : 32 ≤ d.toNat) (h3 : d.toNat ≠ 47) : sla (c :: d :: r) = (sla r).map fun x => (c :: d :: x.1, 2 + x.2) := by
  rw [sla, if_neg (by omega), if_neg (by omega), if_pos h]; simp only [if_neg (show ¬ d.toNat < 32 by omega), if_neg h3]
theorem sla_one (c : UInt8) (r : List UInt8) (h : c.toNat ≠ 47) (h2 : 32 ≤ c.toNat) (h3 : c.toNat ≠ 92) : sla (c :: r) = (sla r).map fun x => (c :: x.1, 1 + x.2) := by
  rw [sla.eq_def]; simp only [if_neg h, if_neg (show ¬ c.toNat < 32 by omega), if_neg h3]
theorem sla_le (l : List UInt8) : ∀ x, sla l = some x → 1 ≤ x.2 ∧ x.2 ≤ l.length ∧ x.1.length < x.2 := by
  match h : l with
  | [] => intro x hx; rw [sla_nil] at hx; cases hx
  | c :: r =>
    intro x hx
    by_cases h1 : c.toNat = 47
    · rw [sla_end c r h1] at hx; cases hx; simp
    by_cases h2 : c.toNat < 32
    · rw [sla_bad c r h2] at hx; cases hx
    by_cases h3 : c.toNat = 92
    · match r, hx with
      | [], hx => rw [sla_last c h3] at hx; cases hx
      | d :: r, hx =>
        by_cases h4 : d.toNat < 32
        · rw [sla_bad2 c d r h3 h4] at hx; cases hx
        by_cases h5 : d.toNat = 47
        · rw [sla_esc c d r h3 h5] at hx
          cases hq : sla r with
          | none => rw [hq] at hx; cases hx
          | some z => have := sla_le r z hq; rw [hq] at hx; cases hx; simp only [List.length_cons]; omega
        · rw [sla_two c d r h3 (by omega) h5] at hx
          cases hq : sla r with
          | none => rw [hq] at hx; cases hx
          | some z => have := sla_le r z hq; rw [hq] at hx; cases hx; simp only [List.length_cons]; omega
    · rw [sla_one c r h1 (by omega) h3] at hx
      cases hq : sla r with
      | none => rw [hq] at hx; cases hx
      | some z => have := sla_le r z hq; rw [hq] at hx; cases hx; simp only [List.length_cons]; omega
termination_by l.length
decreasing_by
  all_goals subst h; simp; try omega
end Go.Proofs.YtfaljkenmbbbaaaDoor
/- The reference of the lexer: span, quoted. -/
namespace Go.Proofs.YtfaljkenmbbbaaaDoor
open Go.RowKit
set_option linter.unusedSimpArgs false
set_option linter.unusedVariables false
def wrd (word : Bool) (b : UInt8) : Bool := bif word then isWrd b else isDig b
set_option maxRecDepth 100000 in
set_option maxHeartbeats 8000000 in
theorem rspan_any (l : List UInt8) (word : Bool) (w : World) (hl : l.length ≤ 1000000) : Calls Tryd.prog 44 #[.string (bs l), .bool word] w fun e w' => e = .returned (.int .i64 (spn (wrd word) l : Nat)) ∧ w' = w := by
  go_enter Tryd.func44, Tryd.ntmps44
  go_wp2_with fail
  go_loop [5] (fun i => ∃ k : Nat, k ≤ l.length ∧ i = .int .i64 k ∧ Hid (spn (wrd word) l = k + spn (wrd word) (l.drop k))) (fun i => l.length - (intOf i).toNat)
  case atStart => exact ⟨0, by omega, rfl, Lib.hid (by simp)⟩
  case round =>
    obtain ⟨k, hk, rfl, hS⟩ := hrel
    by_cases hlt : k < l.length
    · have hd := Lib.hid (drop_cons hlt)
      cases hp : wrd word l[k] with
      | true =>
        have hS2 : Hid (spn (wrd word) l = (k + 1 : Nat) + spn (wrd word) (l.drop (k + 1))) := Lib.hid (by rw [hS.out, hd.out, spn_yes _ _ _ hp]; omega)
        clear hS hd
        cases hg : isDig l[k] with
        | true =>
          go_wp2_with fail
          refine Calls.mono (rdigit_any l[k] _) ?_
          rintro e w1 ⟨rfl, rfl⟩
          rw [hg]
          go_wp2_with fail
          go_round
          (case rel => exact ⟨k + 1, by omega, by go_num, hS2⟩)
          (case measure => simp [intOf]; omega)
        | false =>
          cases word with
          | false => simp [wrd, hg] at hp
          | true =>
            cases hlt2 : isLet l[k] with
            | true =>
              go_wp2_with fail
              refine Calls.mono (rdigit_any l[k] _) ?_
              rintro e w1 ⟨rfl, rfl⟩
              rw [hg]
              go_wp2_with fail
              refine Calls.mono (rletter_any l[k] _) ?_
              rintro e w1 ⟨rfl, rfl⟩
              rw [hlt2]
              go_wp2_with fail
              go_round
              (case rel => exact ⟨k + 1, by omega, by go_num, hS2⟩)
              (case measure => simp [intOf]; omega)
            | false =>
              have h45 : l[k].toNat = 45 := by
                simp only [wrd, cond_true, isWrd, Bool.or_eq_true, hg, hlt2, decide_eq_true_eq, Bool.false_eq_true, false_or] at hp
                exact hp
              have b1 : ((l[k].toNat : Int) == 45) = true := by rw [beq_iff_eq]; omega
              clear h45 hp
              go_wp2_with fail
              refine Calls.mono (rdigit_any l[k] _) ?_
              rintro e w1 ⟨rfl, rfl⟩
              rw [hg]
              go_wp2_with fail
              refine Calls.mono (rletter_any l[k] _) ?_
              rintro e w1 ⟨rfl, rfl⟩
              rw [hlt2]
              go_wp2_with fail
              go_round
              (case rel => exact ⟨k + 1, by omega, by go_num, hS2⟩)
              (case measure => simp [intOf]; omega)
      | false =>
        have hS2 : Hid (spn (wrd word) l = k) := Lib.hid (by rw [hS.out, hd.out, spn_no _ _ _ hp]; omega)
        clear hS hd
        cases word with
        | false =>
          have hg : isDig l[k] = false := hp
          go_wp2_with fail
          refine Calls.mono (rdigit_any l[k] _) ?_
          rintro e w1 ⟨rfl, rfl⟩
          rw [hg]
          go_wp2_with fail
          go_ret
          exact ⟨ret_i64 (by rw [hS2.out]), rfl⟩
        | true =>
          have hp' := hp
          simp only [wrd, cond_true, isWrd, Bool.or_eq_false_iff, decide_eq_false_iff_not] at hp'
          obtain ⟨hg, hlt2, h45⟩ := hp'
          have b1 : ((l[k].toNat : Int) == 45) = false := by rw [beq_eq_false_iff_ne]; omega
          go_wp2_with fail
          refine Calls.mono (rdigit_any l[k] _) ?_
          rintro e w1 ⟨rfl, rfl⟩
          rw [hg]
          go_wp2_with fail
          refine Calls.mono (rletter_any l[k] _) ?_
          rintro e w1 ⟨rfl, rfl⟩
          rw [hlt2]
          go_wp2_with fail
          go_ret
          exact ⟨ret_i64 (by rw [hS2.out]), rfl⟩
    · have hS2 : Hid (spn (wrd word) l = k) := Lib.hid (by rw [hS.out, List.drop_eq_nil_of_le (by omega), spn_nil]; omega)
      clear hS
      go_wp2_with fail
      go_ret
      exact ⟨ret_i64 (by rw [hS2.out]), rfl⟩
end Go.Proofs.YtfaljkenmbbbaaaDoor
/- The reference of the lexer: quoted. -/
namespace Go.Proofs.YtfaljkenmbbbaaaDoor
open Go.RowKit
set_option linter.unusedSimpArgs false
set_option linter.unusedVariables false
def quor (x : Option (List UInt8 × Nat)) : Value := match x with | none => .tuple #[.string (bs []), .int .i64 (-1)] | some x => .tuple #[.string (bs x.1), .int .i64 (x.2 : Nat)]
set_option maxRecDepth 100000 in
set_option maxHeartbeats 8000000 in
theorem rquoted_any (l : List UInt8) (w : World) (hl : l.length ≤ 1000000) : Calls Tryd.prog 46 #[.string (bs l)] w fun e w' => e = .returned (quor (quo l)) ∧ Ext w w' := by
  go_enter Tryd.func46, Tryd.ntmps46
  go_wp2_with fail
  go_loopw [4, 5] (fun o i wr => ∃ (k : Nat) (out : List UInt8) (ad : Option Addr) (cap : Nat), k ≤ l.length ∧ i = .int .i64 k ∧ o = .slice ad out.length cap ∧ Ob w.heap.size 5 wr o out ∧ Ext w wr ∧ out.length ≤ k ∧ Hid (quo l = (quo (l.drop k)).map fun x => (out ++ x.1, k + x.2))) (fun _ i _ => l.length - (intOf i).toNat)
  case atStart => exact ⟨0, [], none, 0, Nat.zero_le _, rfl, rfl, Ob.nil _ _ _, Below.refl _ _, Nat.le_refl _, Lib.hid (by simp)⟩
  case round =>
    obtain ⟨k, out, ad, cap, hk, rfl, rfl, ho, hE, hol, hQ⟩ := hrel
    have cv := run_string_bs (P := Tryd.prog) wr _ _ _ _ _ _ Tryd.underlying38 Tryd.underlying5 Tryd.underlying9 ho.bs
    by_cases hlt : k < l.length
    · have hd := Lib.hid (drop_cons hlt)
      by_cases h34 : l[k].toNat = 34
      · have hQ2 : Hid (quo l = some (out, k + 1)) := Lib.hid (by rw [hQ.out, hd.out, quo_end _ _ h34]; simp)
        clear hQ hd
        have b1 : ((l[k].toNat : Int) != 34) = false := by rw [bne_eq_false_iff_eq]; omega
        go_wp2_with fail
        go_ret2
        exact ⟨by rw [hQ2.out]; simp [quor, bs_nil], hE⟩
      · have b1 : ((l[k].toNat : Int) != 34) = true := by rw [bne_iff_ne]; omega
        cases hp : part (l.drop k) with
        | none =>
          have hQ2 : Hid (quo l = none) := Lib.hid (by rw [hQ.out, hd.out, quo_no _ _ h34 (by rw [← hd.out]; exact hp)]; rfl)
          clear hQ hd
          go_wp2_with fail
          refine Calls.mono (rpart_any (l.drop k) _ (by simp; omega)) ?_
          rintro e w1 ⟨rfl, rfl⟩
          unfold partr
          rw [hp]
          go_wp2_with fail
          go_ret2
          exact ⟨by rw [hQ2.out]; simp [quor, bs_nil], hE⟩
        | some x =>
          obtain ⟨b, n⟩ := x
          have hle := part_le hp
          rw [List.length_drop] at hle
          have hQ2 : Hid (quo l = (quo (l.drop (k + n))).map fun x => ((out ++ [b]) ++ x.1, (k + n) + x.2)) := Lib.hid (by
            rw [hQ.out, hd.out, quo_part _ _ b n h34 (by rw [← hd.out]; exact hp), ← hd.out, List.drop_drop, Option.map_map]
            congr 1
            funext y
            simp only [Function.comp, List.append_assoc, List.singleton_append, Prod.mk.injEq, true_and]
            omega)
          clear hQ hd
          go_wp2_with fail
          refine Calls.mono (rpart_any (l.drop k) _ (by simp; omega)) ?_
          rintro e w1 ⟨rfl, rfl⟩
          unfold partr
          rw [hp]
          clear hp
          go_wp2_with (at_builtin; refine wpList_append_lit w _ w.heap.size rfl _ _ 38 rfl 5 elB _ out rfl ho _ _ _ [b] rfl rfl rfl rfl (out ++ [b]) (out.length + 1) rfl (by simp) (by omega) hE rfl ?_)
          intro ad2 cap2 t2 d2 ho2
          go_wp2_with fail
          go_roundw
          case rel => exact ⟨k + n, out ++ [b], ad2, cap2, by omega, by go_num, by simp, ho2, Ext.ext _ _ _, by simp; omega, hQ2⟩
          case measure => simp [intOf]; omega
    · have hQ2 : Hid (quo l = none) := Lib.hid (by rw [hQ.out, List.drop_eq_nil_of_le (by omega), quo_nil]; rfl)
      clear hQ
      go_wp2_with fail
      go_ret2
      exact ⟨by rw [hQ2.out]; simp [quor, bs_nil], hE⟩
end Go.Proofs.YtfaljkenmbbbaaaDoor
/- The reference of the lexer: slashed. -/
namespace Go.Proofs.YtfaljkenmbbbaaaDoor
open Go.RowKit
set_option linter.unusedSimpArgs false
set_option linter.unusedVariables false
set_option maxRecDepth 100000 in
set_option maxHeartbeats 8000000 in
theorem rslashed_any (l : List UInt8) (w : World) (hl : l.length ≤ 1000000) : Calls Tryd.prog 47 #[.string (bs l)] w fun e w' => e = .returned (quor (sla l)) ∧ Ext w w' := by
  go_enter Tryd.func47, Tryd.ntmps47
  go_wp2_with fail
  go_loopw [4, 5] (fun o i wr => ∃ (k : Nat) (out : List UInt8) (ad : Option Addr) (cap : Nat), k ≤ l.length ∧ i = .int .i64 k ∧ o = .slice ad out.length cap ∧ Ob w.heap.size 5 wr o out ∧ Ext w wr ∧ out.length ≤ k ∧ Hid (sla l = (sla (l.drop k)).map fun x => (out ++ x.1, k + x.2))) (fun _ i _ => l.length - (intOf i).toNat)
  case atStart => exact ⟨0, [], none, 0, Nat.zero_le _, rfl, rfl, Ob.nil _ _ _, Below.refl _ _, Nat.le_refl _, Lib.hid (by simp)⟩
  case round =>
    obtain ⟨k, out, ad, cap, hk, rfl, rfl, ho, hE, hol, hQ⟩ := hrel
    have cv := run_string_bs (P := Tryd.prog) wr _ _ _ _ _ _ Tryd.underlying38 Tryd.underlying5 Tryd.underlying9 ho.bs
    by_cases hlt : k < l.length
    · have hd := Lib.hid (drop_cons hlt)
      have hb := l[k].toNat_lt
      by_cases h47 : l[k].toNat = 47
      · have hQ2 : Hid (sla l = some (out, k + 1)) := Lib.hid (by rw [hQ.out, hd.out, sla_end _ _ h47]; simp)
        clear hQ hd
        have b1 : ((l[k].toNat : Int) != 47) = false := by rw [bne_eq_false_iff_eq]; omega
        go_wp2_with fail
        go_ret2
        exact ⟨by rw [hQ2.out]; simp [quor, bs_nil], hE⟩
      have b1 : ((l[k].toNat : Int) != 47) = true := by rw [bne_iff_ne]; omega
      by_cases h32 : l[k].toNat < 32
      · have hQ2 : Hid (sla l = none) := Lib.hid (by rw [hQ.out, hd.out, sla_bad _ _ h32]; rfl)
        clear hQ hd
        go_wp2_with fail
        go_ret2
        exact ⟨by rw [hQ2.out]; simp [quor, bs_nil], hE⟩
      by_cases h92 : l[k].toNat = 92
      · have b2 : ((l[k].toNat : Int) == 92) = true := by rw [beq_iff_eq]; omega
        by_cases hl2 : k + 1 < l.length
        · have hd2 := Lib.hid (drop_cons hl2)
          have hb2 := l[k + 1].toNat_lt
          have y1 : ((k : Int) + 1).toNat = k + 1 := by omega
          by_cases d32 : l[k + 1].toNat < 32
          · have hQ2 : Hid (sla l = none) := Lib.hid (by rw [hQ.out, hd.out, hd2.out, sla_bad2 _ _ _ h92 d32]; rfl)
            clear hQ hd hd2
            go_wp2_with fail
            go_ret2
            exact ⟨by rw [hQ2.out]; simp [quor, bs_nil], hE⟩
          by_cases d47 : l[k + 1].toNat = 47
          · have hQ2 : Hid (sla l = (sla (l.drop (k + 2))).map fun x => ((out ++ [47]) ++ x.1, (k + 2) + x.2)) := Lib.hid (by
              rw [hQ.out, hd.out, hd2.out, sla_esc _ _ _ h92 d47, Option.map_map]
              have e47 : l[k + 1] = 47 := UInt8.toNat_inj.1 (by simpa using d47)
              rw [e47]
              congr 1
              funext y
              simp only [Function.comp, List.append_assoc, List.singleton_append, Prod.mk.injEq, true_and]
              omega)
            clear hQ hd hd2
            have b3 : ((l[k + 1].toNat : Int) == 47) = true := by rw [beq_iff_eq]; omega
            go_wp2_with (at_builtin; refine wpList_append_lit w _ w.heap.size rfl _ _ 38 rfl 5 elB _ out rfl ho _ _ _ [47] rfl rfl rfl rfl (out ++ [47]) (out.length + 1) rfl (by simp) (by omega) hE rfl ?_)
            intro ad2 cap2 t2 d2 ho2
            go_wp2_with fail
            go_roundw
            case rel => exact ⟨k + 2, out ++ [47], ad2, cap2, by omega, by go_num, by simp, ho2, Ext.ext _ _ _, by simp; omega, hQ2⟩
            case measure => simp [intOf]; omega
          · have hQ2 : Hid (sla l = (sla (l.drop (k + 2))).map fun x => ((out ++ [l[k], l[k + 1]]) ++ x.1, (k + 2) + x.2)) := Lib.hid (by
              rw [hQ.out, hd.out, hd2.out, sla_two _ _ _ h92 (by omega) d47, Option.map_map]
              congr 1
              funext y
              simp only [Function.comp, List.append_assoc, List.cons_append, List.nil_append, Prod.mk.injEq, true_and]
              omega)
            clear hQ hd hd2
            have b3 : ((l[k + 1].toNat : Int) == 47) = false := by rw [beq_eq_false_iff_ne]; omega
            go_wp2_with fail
            have g1 : (0 : Int) ≤ (k : Int) + 1 := by omega
            have g2 : (k : Int) + 1 < l.length := by omega
            have x1 : IntKind.i64.wrap ((k : Int) + 1) = k + 1 := IntWalk.i64_in _ (by omega)
            have x2 : IntKind.i64.wrap ((k : Int) + 2) = k + 2 := IntWalk.i64_in _ (by omega)
            go_region_law (refine step_append_bytes w _ w.heap.size rfl (.tmp 71) (.tmp 79) 38 rfl 5 elB (.slice ad out.length cap) out (by simp [Act.eval, Act.put]) (ho.mono (Ext.al _ _)).drew 0 (.slice (some ⟨wr.heap.size, 0, none⟩) 2 2) [l[k], l[k + 1]] (by simp [Act.eval, Act.put]) (Bs.drew (Bs.block _ 0 _ 2 2 _ _ _ _ rfl (Nat.zero_le _) (by simp [u8s, h92]) rfl (Nat.le_refl _) (by decide))) (out ++ [l[k], l[k + 1]]) (out.length + 2) rfl (by simp) (by omega) ((hE.trans ((Below.refl _ _).alloc hE.size _)).drew) rfl ?_; intro ad2 cap2 t2 d2 ho2 hb2)
            all_goals
              go_wp2_with fail
              refine ⟨?_, ?measure⟩
              (repeat apply Exists.intro)
              refine ⟨?rel, rfl⟩
              case rel => exact ⟨k + 2, out ++ [l[k], l[k + 1]], ad2, cap2, by omega, by go_num, by simp, ho2, Ext.ext _ _ _, by simp; omega, hQ2⟩
              case measure =>
                change l.length - (intOf (Value.int .i64 ((k : Int) + 2))).toNat < l.length - (intOf (Value.int .i64 (k : Int))).toNat
                simp [intOf]; omega
        · have hQ2 : Hid (sla l = none) := Lib.hid (by rw [hQ.out, hd.out, List.drop_eq_nil_of_le (by omega), sla_last _ h92]; rfl)
          clear hQ hd
          go_wp2_with fail
          go_ret2
          exact ⟨by rw [hQ2.out]; simp [quor, bs_nil], hE⟩
      have b2 : ((l[k].toNat : Int) == 92) = false := by rw [beq_eq_false_iff_ne]; omega
      have hQ2 : Hid (sla l = (sla (l.drop (k + 1))).map fun x => ((out ++ [l[k]]) ++ x.1, (k + 1) + x.2)) := Lib.hid (by
        rw [hQ.out, hd.out, sla_one _ _ h47 (by omega) h92, Option.map_map]
        congr 1
        funext y
        simp only [Function.comp, List.append_assoc, List.singleton_append, Prod.mk.injEq, true_and]
        omega)
      clear hQ hd
      go_wp2_with (at_builtin; refine wpList_append_lit w _ w.heap.size rfl _ _ 38 rfl 5 elB _ out rfl ho _ _ _ [l[k]] rfl rfl rfl rfl (out ++ [l[k]]) (out.length + 1) rfl (by simp) (by omega) hE rfl ?_)
      intro ad2 cap2 t2 d2 ho2
      go_wp2_with fail
      go_roundw
      case rel => exact ⟨k + 1, out ++ [l[k]], ad2, cap2, by omega, by go_num, by simp, ho2, Ext.ext _ _ _, by simp; omega, hQ2⟩
      case measure => simp [intOf]; omega
    · have hQ2 : Hid (sla l = none) := Lib.hid (by rw [hQ.out, List.drop_eq_nil_of_le (by omega), sla_nil]; rfl)
      clear hQ
      go_wp2_with fail
      go_ret2
      exact ⟨by rw [hQ2.out]; simp [quor, bs_nil], hE⟩
end Go.Proofs.YtfaljkenmbbbaaaDoor
/- The reference of the lexer: one. -/
namespace Go.Proofs.YtfaljkenmbbbaaaDoor
open Go.RowKit
set_option linter.unusedSimpArgs false
set_option linter.unusedVariables false
theorem one_word (c : UInt8) (r : List UInt8) (h : isLet c = true) : one (c :: r) = .ok (1, (c :: r).take (spn isWrd (c :: r)), spn isWrd (c :: r)) := by simp only [one, h, if_true]
theorem one_numx (c : UInt8) (r : List UInt8) (h : isLet c = false) (h2 : isDig c = true) (h3 : 18 < spn isDig (c :: r) ∨ 1 < spn isDig (c :: r) ∧ c.toNat = 48) : one (c :: r) = .error 53 := by simp only [one, h, h2, if_pos h3, if_true, Bool.false_eq_true, if_false]
theorem one_num (c : UInt8) (r : List UInt8) (h : isLet c = false) (h2 : isDig c = true) (h3 : ¬(18 < spn isDig (c :: r) ∨ 1 < spn isDig (c :: r) ∧ c.toNat = 48)) : one (c :: r) = .ok (2, (c :: r).take (spn isDig (c :: r)), spn isDig (c :: r)) := by simp only [one, h, h2, if_neg h3, if_true, Bool.false_eq_true, if_false]
theorem one_str (c : UInt8) (r : List UInt8) (h : isLet c = false) (h2 : isDig c = false) (h3 : c.toNat = 34) : one (c :: r) = match quo r with | none => .error 51 | some x => .ok (3, x.1, x.2 + 1) := by simp only [one, h, h2, if_pos h3, Bool.false_eq_true, if_false]; cases quo r <;> rfl
theorem one_pat (c : UInt8) (r : List UInt8) (h : isLet c = false) (h2 : isDig c = false) (h3 : c.toNat = 47) : one (c :: r) = match sla r with | none => .error 52 | some x => .ok (4, x.1, x.2 + 1) := by simp only [one, h, h2, if_neg (show ¬ c.toNat = 34 by omega), if_pos h3, Bool.false_eq_true, if_false]; cases sla r <;> rfl
theorem one_sign (c : UInt8) (r : List UInt8) (h : isLet c = false) (h2 : isDig c = false) (h3 : c.toNat = 123 ∨ c.toNat = 125 ∨ c.toNat = 44 ∨ c.toNat = 61) : one (c :: r) = .ok (5, [c], 1) := by simp only [one, h, h2, if_neg (show ¬ c.toNat = 34 by omega), if_neg (show ¬ c.toNat = 47 by omega), if_pos h3, Bool.false_eq_true, if_false]
theorem one_bad (c : UInt8) (r : List UInt8) (h : isLet c = false) (h2 : isDig c = false) (h3 : c.toNat ≠ 34) (h4 : c.toNat ≠ 47) (h5 : ¬(c.toNat = 123 ∨ c.toNat = 125 ∨ c.toNat = 44 ∨ c.toNat = 61)) : one (c :: r) = .error 50 := by simp only [one, h, h2, if_neg h3, if_neg h4, if_neg h5, Bool.false_eq_true, if_false]
def oner (x : Except Int (Int × List UInt8 × Nat)) : Value := match x with
  | .error e => .tuple #[.int .i64 0, .string (bs []), .int .i64 0, .int .i64 e]
  | .ok x => .tuple #[.int .i64 x.1, .string (bs x.2.1), .int .i64 (x.2.2 : Nat), .int .i64 0]
set_option maxRecDepth 100000 in
set_option maxHeartbeats 8000000 in
theorem rone_word (c : UInt8) (r : List UInt8) (w : World) (hl : r.length ≤ 999999) (h : isLet c = true) : Calls Tryd.prog 26 #[.string (bs (c :: r))] w fun e w' => e = .returned (oner (one (c :: r))) ∧ Ext w w' := by
  rw [one_word c r h]
  have hle := spn_le isWrd (c :: r)
  rw [List.length_cons] at hle
  have hs := rspan_any (c :: r) true w (by simp; omega)
  rw [show wrd true = isWrd from rfl] at hs
  generalize spn isWrd (c :: r) = n at hle hs ⊢
  go_enter Tryd.func26, Tryd.ntmps26
  go_wp2_with fail
  refine Calls.mono (rletter_any c _) ?_
  rintro e w1 ⟨rfl, rfl⟩
  rw [h]
  go_wp2_with fail
  refine Calls.mono hs ?_
  rintro e w1 ⟨rfl, rfl⟩
  go_wp2_with fail
  go_quiet (fail)
  go_wp2_with fail
  refine bodyPost_ret (by simp [results, Tryd.results26, go_sem]; try rfl) rfl ?_
  exact ⟨rfl, (by repeat (first | (with_reducible exact Below.refl _ _) | (with_reducible assumption) | (with_reducible refine Below.ext ?_ (by first | omega | (simp; done) | (simp; omega)) _ _) | (with_reducible refine Below.alloc ?_ (by first | omega | (simp; done) | (simp; omega)) _) | (with_reducible refine Below.setCell ?_ (by first | omega | (simp; done) | (simp; omega)) _) | (with_reducible refine Below.drew ?_) | (with_reducible refine Below.drewN ?_ _)))⟩
end Go.Proofs.YtfaljkenmbbbaaaDoor
/- The reference of the lexer: one, a number. -/
namespace Go.Proofs.YtfaljkenmbbbaaaDoor
open Go.RowKit
set_option linter.unusedSimpArgs false
set_option linter.unusedVariables false
set_option maxRecDepth 100000 in
set_option maxHeartbeats 8000000 in
theorem rone_num (c : UInt8) (r : List UInt8) (w : World) (hl : r.length ≤ 999999) (h : isLet c = false) (h2 : isDig c = true) : Calls Tryd.prog 26 #[.string (bs (c :: r))] w fun e w' => e = .returned (oner (one (c :: r))) ∧ Ext w w' := by
  have hle := spn_le isDig (c :: r)
  rw [List.length_cons] at hle
  have hs := rspan_any (c :: r) false w (by simp; omega)
  rw [show wrd false = isDig from rfl] at hs
  have hb := c.toNat_lt
  by_cases h3 : 18 < spn isDig (c :: r) ∨ 1 < spn isDig (c :: r) ∧ c.toNat = 48
  · rw [one_numx c r h h2 h3]
    generalize spn isDig (c :: r) = n at hle hs h3 ⊢
    go_enter Tryd.func26, Tryd.ntmps26
    go_wp2_with fail
    refine Calls.mono (rletter_any c _) ?_
    rintro e w1 ⟨rfl, rfl⟩
    rw [h]
    go_wp2_with fail
    refine Calls.mono (rdigit_any c _) ?_
    rintro e w1 ⟨rfl, rfl⟩
    rw [h2]
    go_wp2_with fail
    refine Calls.mono hs ?_
    rintro e w1 ⟨rfl, rfl⟩
    have h4 : 18 < n ∨ (n ≤ 18 ∧ 1 < n ∧ c.toNat = 48) := by omega
    clear h3
    rcases h4 with h4 | ⟨h4, h5, h6⟩
    · go_wp2_with fail
      refine bodyPost_ret (by simp [results, Tryd.results26, go_sem]; try rfl) rfl ?_
      exact ⟨by simp [oner, bs_nil], (by repeat (first | (with_reducible exact Below.refl _ _) | (with_reducible assumption) | (with_reducible refine Below.ext ?_ (by first | omega | (simp; done) | (simp; omega)) _ _) | (with_reducible refine Below.alloc ?_ (by first | omega | (simp; done) | (simp; omega)) _) | (with_reducible refine Below.setCell ?_ (by first | omega | (simp; done) | (simp; omega)) _) | (with_reducible refine Below.drew ?_) | (with_reducible refine Below.drewN ?_ _)))⟩
    · have b1 : ((c.toNat : Int) == 48) = true := by rw [beq_iff_eq]; omega
      clear h6
      go_wp2_with fail
      refine bodyPost_ret (by simp [results, Tryd.results26, go_sem]; try rfl) rfl ?_
      exact ⟨by simp [oner, bs_nil], (by repeat (first | (with_reducible exact Below.refl _ _) | (with_reducible assumption) | (with_reducible refine Below.ext ?_ (by first | omega | (simp; done) | (simp; omega)) _ _) | (with_reducible refine Below.alloc ?_ (by first | omega | (simp; done) | (simp; omega)) _) | (with_reducible refine Below.setCell ?_ (by first | omega | (simp; done) | (simp; omega)) _) | (with_reducible refine Below.drew ?_) | (with_reducible refine Below.drewN ?_ _)))⟩
  · rw [one_num c r h h2 h3]
    generalize spn isDig (c :: r) = n at hle hs h3 ⊢
    go_enter Tryd.func26, Tryd.ntmps26
    go_wp2_with fail
    refine Calls.mono (rletter_any c _) ?_
    rintro e w1 ⟨rfl, rfl⟩
    rw [h]
    go_wp2_with fail
    refine Calls.mono (rdigit_any c _) ?_
    rintro e w1 ⟨rfl, rfl⟩
    rw [h2]
    go_wp2_with fail
    refine Calls.mono hs ?_
    rintro e w1 ⟨rfl, rfl⟩
    have h4 : n ≤ 18 ∧ (n ≤ 1 ∨ c.toNat ≠ 48) := by omega
    obtain ⟨h4, h5⟩ := h4
    clear h3
    by_cases h6 : 1 < n
    · have b1 : ((c.toNat : Int) == 48) = false := by rw [beq_eq_false_iff_ne]; omega
      clear h5
      go_wp2_with fail
      go_quiet (fail)
      go_wp2_with fail
      refine bodyPost_ret (by simp [results, Tryd.results26, go_sem]; try rfl) rfl ?_
      exact ⟨rfl, (by repeat (first | (with_reducible exact Below.refl _ _) | (with_reducible assumption) | (with_reducible refine Below.ext ?_ (by first | omega | (simp; done) | (simp; omega)) _ _) | (with_reducible refine Below.alloc ?_ (by first | omega | (simp; done) | (simp; omega)) _) | (with_reducible refine Below.setCell ?_ (by first | omega | (simp; done) | (simp; omega)) _) | (with_reducible refine Below.drew ?_) | (with_reducible refine Below.drewN ?_ _)))⟩
    · clear h5
      go_wp2_with fail
      go_quiet (fail)
      go_wp2_with fail
      refine bodyPost_ret (by simp [results, Tryd.results26, go_sem]; try rfl) rfl ?_
      exact ⟨rfl, (by repeat (first | (with_reducible exact Below.refl _ _) | (with_reducible assumption) | (with_reducible refine Below.ext ?_ (by first | omega | (simp; done) | (simp; omega)) _ _) | (with_reducible refine Below.alloc ?_ (by first | omega | (simp; done) | (simp; omega)) _) | (with_reducible refine Below.setCell ?_ (by first | omega | (simp; done) | (simp; omega)) _) | (with_reducible refine Below.drew ?_) | (with_reducible refine Below.drewN ?_ _)))⟩
end Go.Proofs.YtfaljkenmbbbaaaDoor
/- The reference of the lexer: one, a string and a pattern. -/
namespace Go.Proofs.YtfaljkenmbbbaaaDoor
open Go.RowKit
set_option linter.unusedSimpArgs false
set_option linter.unusedVariables false
set_option maxRecDepth 100000 in
set_option maxHeartbeats 8000000 in
theorem rone_str (c : UInt8) (r : List UInt8) (w : World) (hl : r.length ≤ 999999) (h : isLet c = false) (h2 : isDig c = false) (h3 : c.toNat = 34) : Calls Tryd.prog 26 #[.string (bs (c :: r))] w fun e w' => e = .returned (oner (one (c :: r))) ∧ Ext w w' := by
  obtain ⟨V, hV0⟩ : ∃ V, V = oner (one (c :: r)) := ⟨_, rfl⟩
  rw [← hV0]
  rw [one_str c r h h2 h3] at hV0
  have hV := Lib.hid hV0
  clear hV0
  have hq := rquoted_any r w (by omega)
  have hle := Lib.hid (quo_le r)
  have y1 : ((c.toNat : Int) == 34) = true := by first | (rw [beq_iff_eq]; omega) | (rw [beq_eq_false_iff_ne]; omega)
  have y2 : ((c.toNat : Int) == 47) = false := by first | (rw [beq_iff_eq]; omega) | (rw [beq_eq_false_iff_ne]; omega)
  clear h3
  go_enter Tryd.func26, Tryd.ntmps26
  go_wp2_with fail
  refine Calls.mono (rletter_any c _) ?_
  rintro e w1 ⟨rfl, rfl⟩
  rw [h]
  go_wp2_with fail
  refine Calls.mono (rdigit_any c _) ?_
  rintro e w1 ⟨rfl, rfl⟩
  rw [h2]
  go_wp2_with fail
  rw [show (bs (c :: r)).extract 1 (r.length + 1) = bs r from bs_from (c :: r) 1]
  refine Calls.mono hq ?_
  rintro e w2 ⟨rfl, hx⟩
  unfold quor
  cases hqq : quo r with
  | none =>
    have hQQ := Lib.hid hqq
    clear hqq hle
    go_wp2_with fail
    refine bodyPost_ret (by simp [results, Tryd.results26, go_sem]; try rfl) rfl ?_
    exact ⟨by rw [hV.out, hQQ.out]; simp [oner, bs_nil], hx⟩
  | some x =>
    have hx1 := (hle.out x hqq).2.1
    have hQQ := Lib.hid hqq
    clear hqq hle
    go_wp2_with fail
    refine bodyPost_ret (by simp [results, Tryd.results26, go_sem]; try rfl) rfl ?_
    exact ⟨by rw [hV.out, hQQ.out]; simp [oner], hx⟩
set_option maxRecDepth 100000 in
set_option maxHeartbeats 8000000 in
theorem rone_pat (c : UInt8) (r : List UInt8) (w : World) (hl : r.length ≤ 999999) (h : isLet c = false) (h2 : isDig c = false) (h3 : c.toNat = 47) : Calls Tryd.prog 26 #[.string (bs (c :: r))] w fun e w' => e = .returned (oner (one (c :: r))) ∧ Ext w w' := by
  obtain ⟨V, hV0⟩ : ∃ V, V = oner (one (c :: r)) := ⟨_, rfl⟩
  rw [← hV0]
  rw [one_pat c r h h2 h3] at hV0
  have hV := Lib.hid hV0
  clear hV0
  have hq := rslashed_any r w (by omega)
  have hle := Lib.hid (sla_le r)
  have y1 : ((c.toNat : Int) == 34) = false := by first | (rw [beq_iff_eq]; omega) | (rw [beq_eq_false_iff_ne]; omega)
  have y2 : ((c.toNat : Int) == 47) = true := by first | (rw [beq_iff_eq]; omega) | (rw [beq_eq_false_iff_ne]; omega)
  clear h3
  go_enter Tryd.func26, Tryd.ntmps26
  go_wp2_with fail
  refine Calls.mono (rletter_any c _) ?_
  rintro e w1 ⟨rfl, rfl⟩
  rw [h]
  go_wp2_with fail
  refine Calls.mono (rdigit_any c _) ?_
  rintro e w1 ⟨rfl, rfl⟩
  rw [h2]
  go_wp2_with fail
  rw [show (bs (c :: r)).extract 1 (r.length + 1) = bs r from bs_from (c :: r) 1]
  refine Calls.mono hq ?_
  rintro e w2 ⟨rfl, hx⟩
  unfold quor
  cases hqq : sla r with
  | none =>
    have hQQ := Lib.hid hqq
    clear hqq hle
    go_wp2_with fail
    refine bodyPost_ret (by simp [results, Tryd.results26, go_sem]; try rfl) rfl ?_
    exact ⟨by rw [hV.out, hQQ.out]; simp [oner, bs_nil], hx⟩
  | some x =>
    have hx1 := (hle.out x hqq).2.1
    have hQQ := Lib.hid hqq
    clear hqq hle
    go_wp2_with fail
    refine bodyPost_ret (by simp [results, Tryd.results26, go_sem]; try rfl) rfl ?_
    exact ⟨by rw [hV.out, hQQ.out]; simp [oner], hx⟩
end Go.Proofs.YtfaljkenmbbbaaaDoor
/- The reference of the lexer: one, a sign; whatever. -/
namespace Go.Proofs.YtfaljkenmbbbaaaDoor
open Go.RowKit
set_option linter.unusedSimpArgs false
set_option linter.unusedVariables false
set_option maxRecDepth 100000 in
set_option maxHeartbeats 8000000 in
theorem rone_sign123 (c : UInt8) (r : List UInt8) (w : World) (hl : r.length ≤ 999999) (h : isLet c = false) (h2 : isDig c = false) (h3 : c.toNat = 123) : Calls Tryd.prog 26 #[.string (bs (c :: r))] w fun e w' => e = .returned (oner (one (c :: r))) ∧ Ext w w' := by
  rw [one_sign c r h h2 (by omega)]
  have y0 : ((c.toNat : Int) == 34) = false := by first | (rw [beq_iff_eq]; omega) | (rw [beq_eq_false_iff_ne]; omega)
  have y1 : ((c.toNat : Int) == 47) = false := by first | (rw [beq_iff_eq]; omega) | (rw [beq_eq_false_iff_ne]; omega)
  have y2 : ((c.toNat : Int) == 123) = true := by first | (rw [beq_iff_eq]; omega) | (rw [beq_eq_false_iff_ne]; omega)
  have y3 : ((c.toNat : Int) == 125) = false := by first | (rw [beq_iff_eq]; omega) | (rw [beq_eq_false_iff_ne]; omega)
  have y4 : ((c.toNat : Int) == 44) = false := by first | (rw [beq_iff_eq]; omega) | (rw [beq_eq_false_iff_ne]; omega)
  have y5 : ((c.toNat : Int) == 61) = false := by first | (rw [beq_iff_eq]; omega) | (rw [beq_eq_false_iff_ne]; omega)
  clear h3
  go_enter Tryd.func26, Tryd.ntmps26
  go_wp2_with fail
  refine Calls.mono (rletter_any c _) ?_
  rintro e w1 ⟨rfl, rfl⟩
  rw [h]
  go_wp2_with fail
  refine Calls.mono (rdigit_any c _) ?_
  rintro e w1 ⟨rfl, rfl⟩
  rw [h2]
  go_wp2_with fail
  all_goals (try (go_quiet (fail)))
  all_goals (try go_wp2_with fail)
  all_goals refine bodyPost_ret (by simp [results, Tryd.results26, go_sem]; try rfl) rfl ?_
  all_goals exact ⟨by simp [oner], (by repeat (first | (with_reducible exact Below.refl _ _) | (with_reducible assumption) | (with_reducible refine Below.ext ?_ (by first | omega | (simp; done) | (simp; omega)) _ _) | (with_reducible refine Below.alloc ?_ (by first | omega | (simp; done) | (simp; omega)) _) | (with_reducible refine Below.setCell ?_ (by first | omega | (simp; done) | (simp; omega)) _) | (with_reducible refine Below.drew ?_) | (with_reducible refine Below.drewN ?_ _)))⟩
set_option maxRecDepth 100000 in
set_option maxHeartbeats 8000000 in
theorem rone_sign125 (c : UInt8) (r : List UInt8) (w : World) (hl : r.length ≤ 999999) (h : isLet c = false) (h2 : isDig c = false) (h3 : c.toNat = 125) : Calls Tryd.prog 26 #[.string (bs (c :: r))] w fun e w' => e = .returned (oner (one (c :: r))) ∧ Ext w w' := by
  rw [one_sign c r h h2 (by omega)]
  have y0 : ((c.toNat : Int) == 34) = false := by first | (rw [beq_iff_eq]; omega) | (rw [beq_eq_false_iff_ne]; omega)
  have y1 : ((c.toNat : Int) == 47) = false := by first | (rw [beq_iff_eq]; omega) | (rw [beq_eq_false_iff_ne]; omega)
  have y2 : ((c.toNat : Int) == 123) = false := by first | (rw [beq_iff_eq]; omega) | (rw [beq_eq_false_iff_ne]; omega)
  have y3 : ((c.toNat : Int) == 125) = true := by first | (rw [beq_iff_eq]; omega) | (rw [beq_eq_false_iff_ne]; omega)
  have y4 : ((c.toNat : Int) == 44) = false := by first | (rw [beq_iff_eq]; omega) | (rw [beq_eq_false_iff_ne]; omega)
  have y5 : ((c.toNat : Int) == 61) = false := by first | (rw [beq_iff_eq]; omega) | (rw [beq_eq_false_iff_ne]; omega)
  clear h3
  go_enter Tryd.func26, Tryd.ntmps26
  go_wp2_with fail
  refine Calls.mono (rletter_any c _) ?_
  rintro e w1 ⟨rfl, rfl⟩
  rw [h]
  go_wp2_with fail
  refine Calls.mono (rdigit_any c _) ?_
  rintro e w1 ⟨rfl, rfl⟩
  rw [h2]
  go_wp2_with fail
  all_goals (try (go_quiet (fail)))
  all_goals (try go_wp2_with fail)
  all_goals refine bodyPost_ret (by simp [results, Tryd.results26, go_sem]; try rfl) rfl ?_
  all_goals exact ⟨by simp [oner], (by repeat (first | (with_reducible exact Below.refl _ _) | (with_reducible assumption) | (with_reducible refine Below.ext ?_ (by first | omega | (simp; done) | (simp; omega)) _ _) | (with_reducible refine Below.alloc ?_ (by first | omega | (simp; done) | (simp; omega)) _) | (with_reducible refine Below.setCell ?_ (by first | omega | (simp; done) | (simp; omega)) _) | (with_reducible refine Below.drew ?_) | (with_reducible refine Below.drewN ?_ _)))⟩
set_option maxRecDepth 100000 in
set_option maxHeartbeats 8000000 in
theorem rone_sign44 (c : UInt8) (r : List UInt8) (w : World) (hl : r.length ≤ 999999) (h : isLet c = false) (h2 : isDig c = false) (h3 : c.toNat = 44) : Calls Tryd.prog 26 #[.string (bs (c :: r))] w fun e w' => e = .returned (oner (one (c :: r))) ∧ Ext w w' := by
  rw [one_sign c r h h2 (by omega)]
  have y0 : ((c.toNat : Int) == 34) = false := by first | (rw [beq_iff_eq]; omega) | (rw [beq_eq_false_iff_ne]; omega)
  have y1 : ((c.toNat : Int) == 47) = false := by first | (rw [beq_iff_eq]; omega) | (rw [beq_eq_false_iff_ne]; omega)
  have y2 : ((c.toNat : Int) == 123) = false := by first | (rw [beq_iff_eq]; omega) | (rw [beq_eq_false_iff_ne]; omega)
  have y3 : ((c.toNat : Int) == 125) = false := by first | (rw [beq_iff_eq]; omega) | (rw [beq_eq_false_iff_ne]; omega)
  have y4 : ((c.toNat : Int) == 44) = true := by first | (rw [beq_iff_eq]; omega) | (rw [beq_eq_false_iff_ne]; omega)
  have y5 : ((c.toNat : Int) == 61) = false := by first | (rw [beq_iff_eq]; omega) | (rw [beq_eq_false_iff_ne]; omega)
  clear h3
  go_enter Tryd.func26, Tryd.ntmps26
  go_wp2_with fail
  refine Calls.mono (rletter_any c _) ?_
  rintro e w1 ⟨rfl, rfl⟩
  rw [h]
  go_wp2_with fail
  refine Calls.mono (rdigit_any c _) ?_
  rintro e w1 ⟨rfl, rfl⟩
  rw [h2]
  go_wp2_with fail
  all_goals (try (go_quiet (fail)))
  all_goals (try go_wp2_with fail)
  all_goals refine bodyPost_ret (by simp [results, Tryd.results26, go_sem]; try rfl) rfl ?_
  all_goals exact ⟨by simp [oner], (by repeat (first | (with_reducible exact Below.refl _ _) | (with_reducible assumption) | (with_reducible refine Below.ext ?_ (by first | omega | (simp; done) | (simp; omega)) _ _) | (with_reducible refine Below.alloc ?_ (by first | omega | (simp; done) | (simp; omega)) _) | (with_reducible refine Below.setCell ?_ (by first | omega | (simp; done) | (simp; omega)) _) | (with_reducible refine Below.drew ?_) | (with_reducible refine Below.drewN ?_ _)))⟩
set_option maxRecDepth 100000 in
set_option maxHeartbeats 8000000 in
theorem rone_sign61 (c : UInt8) (r : List UInt8) (w : World) (hl : r.length ≤ 999999) (h : isLet c = false) (h2 : isDig c = false) (h3 : c.toNat = 61) : Calls Tryd.prog 26 #[.string (bs (c :: r))] w fun e w' => e = .returned (oner (one (c :: r))) ∧ Ext w w' := by
  rw [one_sign c r h h2 (by omega)]
  have y0 : ((c.toNat : Int) == 34) = false := by first | (rw [beq_iff_eq]; omega) | (rw [beq_eq_false_iff_ne]; omega)
  have y1 : ((c.toNat : Int) == 47) = false := by first | (rw [beq_iff_eq]; omega) | (rw [beq_eq_false_iff_ne]; omega)
  have y2 : ((c.toNat : Int) == 123) = false := by first | (rw [beq_iff_eq]; omega) | (rw [beq_eq_false_iff_ne]; omega)
  have y3 : ((c.toNat : Int) == 125) = false := by first | (rw [beq_iff_eq]; omega) | (rw [beq_eq_false_iff_ne]; omega)
  have y4 : ((c.toNat : Int) == 44) = false := by first | (rw [beq_iff_eq]; omega) | (rw [beq_eq_false_iff_ne]; omega)
  have y5 : ((c.toNat : Int) == 61) = true := by first | (rw [beq_iff_eq]; omega) | (rw [beq_eq_false_iff_ne]; omega)
  clear h3
  go_enter Tryd.func26, Tryd.ntmps26
  go_wp2_with fail
  refine Calls.mono (rletter_any c _) ?_
  rintro e w1 ⟨rfl, rfl⟩
  rw [h]
  go_wp2_with fail
  refine Calls.mono (rdigit_any c _) ?_
  rintro e w1 ⟨rfl, rfl⟩
  rw [h2]
  go_wp2_with fail
  all_goals (try (go_quiet (fail)))
  all_goals (try go_wp2_with fail)
  all_goals refine bodyPost_ret (by simp [results, Tryd.results26, go_sem]; try rfl) rfl ?_
  all_goals exact ⟨by simp [oner], (by repeat (first | (with_reducible exact Below.refl _ _) | (with_reducible assumption) | (with_reducible refine Below.ext ?_ (by first | omega | (simp; done) | (simp; omega)) _ _) | (with_reducible refine Below.alloc ?_ (by first | omega | (simp; done) | (simp; omega)) _) | (with_reducible refine Below.setCell ?_ (by first | omega | (simp; done) | (simp; omega)) _) | (with_reducible refine Below.drew ?_) | (with_reducible refine Below.drewN ?_ _)))⟩
set_option maxRecDepth 100000 in
set_option maxHeartbeats 8000000 in
theorem rone_bad (c : UInt8) (r : List UInt8) (w : World) (hl : r.length ≤ 999999) (h : isLet c = false) (h2 : isDig c = false) (h3 : c.toNat ≠ 34) (h4 : c.toNat ≠ 47) (h5 : ¬(c.toNat = 123 ∨ c.toNat = 125 ∨ c.toNat = 44 ∨ c.toNat = 61)) : Calls Tryd.prog 26 #[.string (bs (c :: r))] w fun e w' => e = .returned (oner (one (c :: r))) ∧ Ext w w' := by
  rw [one_bad c r h h2 h3 h4 h5]
  have y0 : ((c.toNat : Int) == 34) = false := by first | (rw [beq_iff_eq]; omega) | (rw [beq_eq_false_iff_ne]; omega)
  have y1 : ((c.toNat : Int) == 47) = false := by first | (rw [beq_iff_eq]; omega) | (rw [beq_eq_false_iff_ne]; omega)
  have y2 : ((c.toNat : Int) == 123) = false := by first | (rw [beq_iff_eq]; omega) | (rw [beq_eq_false_iff_ne]; omega)
  have y3 : ((c.toNat : Int) == 125) = false := by first | (rw [beq_iff_eq]; omega) | (rw [beq_eq_false_iff_ne]; omega)
  have y4 : ((c.toNat : Int) == 44) = false := by first | (rw [beq_iff_eq]; omega) | (rw [beq_eq_false_iff_ne]; omega)
  have y5 : ((c.toNat : Int) == 61) = false := by first | (rw [beq_iff_eq]; omega) | (rw [beq_eq_false_iff_ne]; omega)
  clear h3 h4 h5
  go_enter Tryd.func26, Tryd.ntmps26
  go_wp2_with fail
  refine Calls.mono (rletter_any c _) ?_
  rintro e w1 ⟨rfl, rfl⟩
  rw [h]
  go_wp2_with fail
  refine Calls.mono (rdigit_any c _) ?_
  rintro e w1 ⟨rfl, rfl⟩
  rw [h2]
  go_wp2_with fail
  refine bodyPost_ret (by simp [results, Tryd.results26, go_sem]; try rfl) rfl ?_
  exact ⟨by simp [oner, bs_nil], (by repeat (first | (with_reducible exact Below.refl _ _) | (with_reducible assumption) | (with_reducible refine Below.ext ?_ (by first | omega | (simp; done) | (simp; omega)) _ _) | (with_reducible refine Below.alloc ?_ (by first | omega | (simp; done) | (simp; omega)) _) | (with_reducible refine Below.setCell ?_ (by first | omega | (simp; done) | (simp; omega)) _) | (with_reducible refine Below.drew ?_) | (with_reducible refine Below.drewN ?_ _)))⟩
set_option maxRecDepth 100000 in
set_option maxHeartbeats 8000000 in
theorem rone_any (c : UInt8) (r : List UInt8) (w : World) (hl : r.length ≤ 999999)  : Calls Tryd.prog 26 #[.string (bs (c :: r))] w fun e w' => e = .returned (oner (one (c :: r))) ∧ Ext w w' := by
  cases h : isLet c with
  | true => exact rone_word c r w hl h
  | false =>
    cases h2 : isDig c with
    | true => exact rone_num c r w hl h h2
    | false =>
      by_cases h3 : c.toNat = 34
      · exact rone_str c r w hl h h2 h3
      by_cases h4 : c.toNat = 47
      · exact rone_pat c r w hl h h2 h4
      by_cases h5 : c.toNat = 123
      · exact rone_sign123 c r w hl h h2 h5
      by_cases h6 : c.toNat = 125
      · exact rone_sign125 c r w hl h h2 h6
      by_cases h7 : c.toNat = 44
      · exact rone_sign44 c r w hl h h2 h7
      by_cases h8 : c.toNat = 61
      · exact rone_sign61 c r w hl h h2 h8
      exact rone_bad c r w hl h h2 h3 h4 (by omega)
end Go.Proofs.YtfaljkenmbbbaaaDoor
/- Of the tokens of a text: how lexGo unfolds. No program in sight. -/
namespace Go.Proofs.YtfaljkenmbbbaaaDoor
open Go.RowKit
set_option linter.unusedSimpArgs false
set_option linter.unusedVariables false
theorem lexGo_end (p : Nat × Nat) (n : Nat) (l : List UInt8) (h : l.drop (skp l) = []) : lexGo p n l = .ok [⟨6, [], (plc p l).1, (plc p l).2⟩] := by
  rw [lexGo]
  split
  · rfl
  · rename_i h2; rw [h] at h2; cases h2
theorem lexGo_bad (p : Nat × Nat) (n : Nat) (l : List UInt8) (c : UInt8) (r : List UInt8) (e : Int) (h : l.drop (skp l) = c :: r) (h1 : one (c :: r) = .error e) : lexGo p n l = .error ⟨e, (plc p (l.take (skp l))).1, (plc p (l.take (skp l))).2⟩ := by
  rw [lexGo]
  split
  · rename_i h2; rw [h] at h2; cases h2
  · rename_i c' r' h2
    rw [h] at h2; cases h2
    rw [h1]
theorem lexGo_full (p : Nat × Nat) (n : Nat) (l : List UInt8) (c : UInt8) (r : List UInt8) (x : Int × List UInt8 × Nat) (h : l.drop (skp l) = c :: r) (h1 : one (c :: r) = .ok x) (hn : 2000 ≤ n) : lexGo p n l = .error ⟨1, (plc p (l.take (skp l))).1, (plc p (l.take (skp l))).2⟩ := by
  rw [lexGo]
  split
  · rename_i h2; rw [h] at h2; cases h2
  · rename_i c' r' h2
    rw [h] at h2; cases h2
    rw [h1]
    simp only [if_pos hn]
theorem lexGo_one (p : Nat × Nat) (n : Nat) (l : List UInt8) (c : UInt8) (r : List UInt8) (k : Int) (t : List UInt8) (m : Nat) (h : l.drop (skp l) = c :: r) (h1 : one (c :: r) = .ok (k, t, m)) (hm : 1 ≤ m) (hn : n < 2000) :
    lexGo p n l = (lexGo (plc p (l.take (skp l + m))) (n + 1) ((c :: r).drop m)).map (⟨k, t, (plc p (l.take (skp l))).1, (plc p (l.take (skp l))).2⟩ :: ·) := by
  rw [lexGo]
  split
  · rename_i h2; rw [h] at h2; cases h2
  · rename_i c' r' h2
    rw [h] at h2; cases h2
    rw [h1]
    simp only [if_neg (show ¬ 2000 ≤ n by omega), show max m 1 = m from by omega]
end Go.Proofs.YtfaljkenmbbbaaaDoor
