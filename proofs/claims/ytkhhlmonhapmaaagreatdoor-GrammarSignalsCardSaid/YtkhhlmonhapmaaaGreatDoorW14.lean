import Derived.Test.YtkhhlmonhapmaaaGreatDoorW0
import Derived.Test.YtkhhlmonhapmaaaGreatDoorRows
import Derived.Lib.AppendZeros
import Derived.Test.YtkhhlmonhapmaaaGreatDoorW3
/- The tokens of a text, in plain Lean. No program in sight. -/
namespace Go.Proofs.YtkhhlmonhapmaaaGreatDoor
open Go.RowKit
set_option linter.unusedSimpArgs false
set_option linter.unusedVariables false
/-- A letter, a digit, a digit of base 16. -/
def isLet (b : UInt8) : Bool := decide ((65 ≤ b.toNat ∧ b.toNat ≤ 90) ∨ (97 ≤ b.toNat ∧ b.toNat ≤ 122) ∨ b.toNat = 95)
def isDig (b : UInt8) : Bool := decide (48 ≤ b.toNat ∧ b.toNat ≤ 57)
def hexv (b : UInt8) : Option Nat :=
  if 48 ≤ b.toNat ∧ b.toNat ≤ 57 then some (b.toNat - 48)
  else if 97 ≤ b.toNat ∧ b.toNat ≤ 102 then some (b.toNat - 87)
  else if 65 ≤ b.toNat ∧ b.toNat ≤ 70 then some (b.toNat - 55) else none
theorem hexv_lt {b : UInt8} {n : Nat} (h : hexv b = some n) : n < 16 := by
  unfold hexv at h
  split at h
  · cases h; omega
  · split at h
    · cases h; omega
    · split at h
      · cases h; omega
      · cases h
/-- What stands behind a '\' in a string: its byte, and how many bytes stand for it. -/
def escd : List UInt8 → Option (UInt8 × Nat)
  | [] => none
  | d :: r =>
    if d.toNat = 34 ∨ d.toNat = 92 then some (d, 1) else if d.toNat = 110 then some (10, 1) else if d.toNat = 116 then some (9, 1)
    else if d.toNat = 120 then match r with
      | h :: l :: _ => match hexv h, hexv l with
        | some a, some b => some (UInt8.ofNat (16 * a + b), 3)
        | _, _ => none
      | _ => none
    else none
theorem escd_mark (d : UInt8) (r : List UInt8) (h : d.toNat = 34 ∨ d.toNat = 92) : escd (d :: r) = some (d, 1) := by simp only [escd, if_pos h]
theorem escd_n (d : UInt8) (r : List UInt8) (h : d.toNat = 110) : escd (d :: r) = some (10, 1) := by simp only [escd]; rw [if_neg (by omega), if_pos h]
theorem escd_t (d : UInt8) (r : List UInt8) (h : d.toNat = 116) : escd (d :: r) = some (9, 1) := by simp only [escd]; rw [if_neg (by omega), if_neg (by omega), if_pos h]
theorem escd_x (d a b : UInt8) (r : List UInt8) (h : d.toNat = 120) : escd (d :: a :: b :: r) = (hexv a).bind fun x => (hexv b).map fun y => (UInt8.ofNat (16 * x + y), 3) := by
  simp only [escd]; rw [if_neg (by omega), if_neg (by omega), if_neg (by omega), if_pos h]
  cases hexv a <;> cases hexv b <;> rfl
theorem escd_x1 (d a : UInt8) (h : d.toNat = 120) : escd [d, a] = none := by
  simp only [escd]; rw [if_neg (by omega), if_neg (by omega), if_neg (by omega), if_pos h]
theorem escd_x0 (d : UInt8) (h : d.toNat = 120) : escd [d] = none := by
  simp only [escd]; rw [if_neg (by omega), if_neg (by omega), if_neg (by omega), if_pos h]
theorem escd_no (d : UInt8) (r : List UInt8) (h : ¬(d.toNat = 34 ∨ d.toNat = 92 ∨ d.toNat = 110 ∨ d.toNat = 116 ∨ d.toNat = 120)) : escd (d :: r) = none := by
  simp only [escd]; rw [if_neg (by omega), if_neg (by omega), if_neg (by omega), if_neg (by omega)]
/-- A part of a string: its byte, and how many bytes stand for it. -/
def part : List UInt8 → Option (UInt8 × Nat)
  | [] => none
  | c :: r => if c.toNat < 32 ∨ c.toNat = 34 then none else if c.toNat ≠ 92 then some (c, 1) else (escd r).map fun x => (x.1, x.2 + 1)
theorem part_cons (c : UInt8) (r : List UInt8) : part (c :: r) = if c.toNat < 32 ∨ c.toNat = 34 then none else if c.toNat ≠ 92 then some (c, 1) else (escd r).map fun x => (x.1, x.2 + 1) := rfl
theorem escd_le {l : List UInt8} {b : UInt8} {n : Nat} (h : escd l = some (b, n)) : 1 ≤ n ∧ n ≤ 3 ∧ n ≤ l.length := by
  unfold escd at h
  split at h
  · cases h
  · split at h
    · cases h; simp
    · split at h
      · cases h; simp
      · split at h
        · cases h; simp
        · split at h
          · split at h
            · split at h
              · cases h; simp
              · cases h
            · cases h
          · cases h
theorem part_le {l : List UInt8} {b : UInt8} {n : Nat} (h : part l = some (b, n)) : 1 ≤ n ∧ n ≤ 4 ∧ n ≤ l.length := by
  unfold part at h
  split at h
  · cases h
  · split at h
    · cases h
    · split at h
      · cases h; simp
      · cases he : escd _ with
        | none => rw [he] at h; cases h
        | some x => rw [he] at h; cases h; have := escd_le he; simp; omega
/-- A string behind its first mark: its content, and how many bytes it has with the last mark. -/
def quo (l : List UInt8) : Option (List UInt8 × Nat) :=
  match l with
  | [] => none
  | c :: r =>
    if c.toNat = 34 then some ([], 1) else
    match part (c :: r) with
    | none => none
    | some x => (quo ((c :: r).drop (max x.2 1))).map fun y => (x.1 :: y.1, x.2 + y.2)
termination_by l.length
decreasing_by simp; omega
/-- A pattern behind its first slash. -/
def sla (l : List UInt8) : Option (List UInt8 × Nat) :=
  match l with
  | [] => none
  | c :: r =>
    if c.toNat = 47 then some ([], 1) else if c.toNat < 32 then none
    else if c.toNat = 92 then
      match r with
      | [] => none
      | d :: r => if d.toNat < 32 then none else if d.toNat = 47 then (sla r).map fun x => (d :: x.1, 2 + x.2) else (sla r).map fun x => (c :: d :: x.1, 2 + x.2)
    else (sla r).map fun x => (c :: x.1, 1 + x.2)
/-- How many bytes at the beginning are of a word, of a number. -/
def spn (p : UInt8 → Bool) (l : List UInt8) : Nat := (l.takeWhile p).length
def isWrd (b : UInt8) : Bool := isDig b || (isLet b || decide (b.toNat = 45))
/-- A token at the beginning of a text: its kind, its content, its bytes; or the error. -/
def one : List UInt8 → Except Int (Int × List UInt8 × Nat)
  | [] => .error 50
  | c :: r =>
    if isLet c then .ok (1, (c :: r).take (spn isWrd (c :: r)), spn isWrd (c :: r))
    else if isDig c then
      if 18 < spn isDig (c :: r) ∨ 1 < spn isDig (c :: r) ∧ c.toNat = 48 then .error 53 else .ok (2, (c :: r).take (spn isDig (c :: r)), spn isDig (c :: r))
    else if c.toNat = 34 then match quo r with
      | none => .error 51
      | some x => .ok (3, x.1, x.2 + 1)
    else if c.toNat = 47 then match sla r with
      | none => .error 52
      | some x => .ok (4, x.1, x.2 + 1)
    else if c.toNat = 123 ∨ c.toNat = 125 ∨ c.toNat = 44 ∨ c.toNat = 61 then .ok (5, [c], 1)
    else .error 50
/-- How many bytes are ahead of the next line's end. -/
def cmt : List UInt8 → Nat
  | [] => 0
  | c :: r => if c.toNat = 10 then 0 else cmt r + 1
/-- How many bytes of blanks and comments are at the beginning. -/
def skp : List UInt8 → Nat
  | [] => 0
  | c :: r =>
    if c.toNat = 32 ∨ c.toNat = 9 ∨ c.toNat = 10 ∨ c.toNat = 13 then skp r + 1
    else if c.toNat = 35 then cmt (c :: r) + skp ((c :: r).drop (max (cmt (c :: r)) 1))
    else 0
termination_by l => l.length
decreasing_by
  · simp
  · simp; omega
theorem cmt_le (l : List UInt8) : cmt l ≤ l.length := by
  induction l with
  | nil => simp [cmt]
  | cons c r ih => simp only [cmt]; split <;> simp; omega
theorem cmt_yes (c : UInt8) (r : List UInt8) (h : c.toNat ≠ 10) : cmt (c :: r) = cmt r + 1 := by simp only [cmt, if_neg h]
theorem cmt_no (c : UInt8) (r : List UInt8) (h : c.toNat = 10) : cmt (c :: r) = 0 := by simp only [cmt, if_pos h]
theorem skp_nil : skp [] = 0 := by rw [skp]
theorem skp_blank (c : UInt8) (r : List UInt8) (h : c.toNat = 32 ∨ c.toNat = 9 ∨ c.toNat = 10 ∨ c.toNat = 13) : skp (c :: r) = skp r + 1 := by rw [skp, if_pos h]
theorem skp_cmt (c : UInt8) (r : List UInt8) (h : c.toNat = 35) : skp (c :: r) = cmt (c :: r) + skp ((c :: r).drop (cmt (c :: r))) := by
  rw [skp, if_neg (by omega), if_pos h, show max (cmt (c :: r)) 1 = cmt (c :: r) from by rw [cmt_yes _ _ (by omega)]; omega]
theorem skp_no (c : UInt8) (r : List UInt8) (h : ¬(c.toNat = 32 ∨ c.toNat = 9 ∨ c.toNat = 10 ∨ c.toNat = 13)) (h2 : c.toNat ≠ 35) : skp (c :: r) = 0 := by rw [skp, if_neg h, if_neg h2]
/-- Line and column, behind more bytes. -/
def plc (p : Nat × Nat) : List UInt8 → Nat × Nat
  | [] => p
  | c :: r => plc (if c.toNat = 10 then (p.1 + 1, 1) else (p.1, p.2 + 1)) r
structure Tok where
  kind : Int
  text : List UInt8
  line : Nat
  col : Nat
structure Flt where
  code : Int
  line : Nat
  col : Nat
/-- The tokens of a text, or its fault: behind n tokens, at a place. -/
def lexGo (p : Nat × Nat) (n : Nat) (l : List UInt8) : Except Flt (List Tok) :=
  match h : l.drop (skp l) with
  | [] => .ok [⟨6, [], (plc p l).1, (plc p l).2⟩]
  | c :: r =>
    match one (c :: r) with
    | .error e => .error ⟨e, (plc p (l.take (skp l))).1, (plc p (l.take (skp l))).2⟩
    | .ok x => if 2000 ≤ n then .error ⟨1, (plc p (l.take (skp l))).1, (plc p (l.take (skp l))).2⟩
      else (lexGo (plc p (l.take (skp l + x.2.2))) (n + 1) ((c :: r).drop (max x.2.2 1))).map (⟨x.1, x.2.1, (plc p (l.take (skp l))).1, (plc p (l.take (skp l))).2⟩ :: ·)
termination_by l.length
decreasing_by
  have := congrArg List.length h
  simp at *; omega
def lex (l : List UInt8) : Except Flt (List Tok) := if 8192 < l.length then .error ⟨1, 0, 0⟩ else lexGo (1, 1) 0 l
end Go.Proofs.YtkhhlmonhapmaaaGreatDoor
/- bytes.Clone, slices.Grow of nil, slices.Concat of two: what they return, and that they write nothing that was there. -/
namespace Go.Proofs.YtkhhlmonhapmaaaGreatDoor
open Go.RowKit
set_option linter.unusedSimpArgs false
set_option linter.unusedVariables false
end Go.Proofs.YtkhhlmonhapmaaaGreatDoor
/- The reference of the lexer: letter, digit, half, part. -/
namespace Go.Proofs.YtkhhlmonhapmaaaGreatDoor
open Go.RowKit
set_option linter.unusedSimpArgs false
set_option linter.unusedVariables false
end Go.Proofs.YtkhhlmonhapmaaaGreatDoor
/- jobmuxmill.Mod: the remainder, from 0 on. -/
namespace Go.Proofs.YtkhhlmonhapmaaaGreatDoor
open Go.RowKit
set_option linter.unusedSimpArgs false
set_option linter.unusedVariables false
theorem tmod_neg {v n : Int} (hn : 0 < n) (h : v.tmod n < 0) : v.tmod n + n = v % n := by
  rw [Int.tmod_eq_emod] at *
  have := Int.emod_nonneg v (show n ≠ 0 by omega)
  split at h <;> rename_i hc <;> simp [hc] at *
  · omega
  · omega
theorem tmod_pos {v n : Int} (hn : 0 < n) (h : 0 ≤ v.tmod n) : v.tmod n = v % n := by
  rw [Int.tmod_eq_emod] at *
  have := Int.emod_lt_of_pos v hn
  split <;> rename_i hc <;> simp [hc] at *
  omega
theorem ret_i64 {a b : Int} (h : a = b) : Ending.returned (.int .i64 a) = .returned (.int .i64 b) := by rw [h]
set_option maxRecDepth 100000 in
set_option maxHeartbeats 800000 in
theorem mod_any (v n : Int) (w : World) (hn : 1 ≤ n) (hn2 : n ≤ 9223372036854775807) (hv : -9223372036854775808 ≤ v) (hv2 : v ≤ 9223372036854775807) :
    Calls Tryz.prog 20 #[.int .i64 v, .int .i64 n] w fun e w' => e = .returned (.int .i64 (v % n)) ∧ w = w' := by
  have h0 : ¬ n = 0 := by omega
  have h1 : v.tmod n < n := Int.tmod_lt_of_pos v (by omega)
  have h2 : -n < v.tmod n := by
    have := Int.lt_tmod_of_pos v (show 0 < n by omega); omega
  go_enter Tryz.func20, Tryz.ntmps20
  go_wp2
  all_goals go_ret
  · exact ⟨ret_i64 (tmod_neg (by omega) (by assumption)), rfl⟩
  · exact ⟨ret_i64 (tmod_pos (by omega) (by assumption)), rfl⟩
end Go.Proofs.YtkhhlmonhapmaaaGreatDoor
/- The reference of the lexer: where, skip, span. -/
namespace Go.Proofs.YtkhhlmonhapmaaaGreatDoor
open Go.RowKit
set_option linter.unusedSimpArgs false
set_option linter.unusedVariables false
end Go.Proofs.YtkhhlmonhapmaaaGreatDoor
/- Of the tokens of a text: laws. No program in sight. -/
namespace Go.Proofs.YtkhhlmonhapmaaaGreatDoor
open Go.RowKit
set_option linter.unusedSimpArgs false
set_option linter.unusedVariables false
theorem spn_yes (p : UInt8 → Bool) (c : UInt8) (r : List UInt8) (h : p c = true) : spn p (c :: r) = spn p r + 1 := by simp [spn, List.takeWhile_cons, h]
theorem spn_no (p : UInt8 → Bool) (c : UInt8) (r : List UInt8) (h : p c = false) : spn p (c :: r) = 0 := by simp [spn, List.takeWhile_cons, h]
theorem spn_le (p : UInt8 → Bool) (l : List UInt8) : spn p l ≤ l.length := (List.takeWhile_prefix p).length_le
theorem quo_nil : quo [] = none := by rw [quo]
theorem quo_end (c : UInt8) (r : List UInt8) (h : c.toNat = 34) : quo (c :: r) = some ([], 1) := by rw [quo, if_pos h]
theorem quo_no (c : UInt8) (r : List UInt8) (h : c.toNat ≠ 34) (h2 : part (c :: r) = none) : quo (c :: r) = none := by rw [quo, if_neg h, h2]
theorem quo_part (c : UInt8) (r : List UInt8) (b : UInt8) (n : Nat) (h : c.toNat ≠ 34) (h2 : part (c :: r) = some (b, n)) : quo (c :: r) = (quo ((c :: r).drop n)).map fun y => (b :: y.1, n + y.2) := by
  rw [quo, if_neg h, h2]; simp only []; rw [show max n 1 = n from by have := part_le h2; omega]
theorem quo_le (l : List UInt8) : ∀ x, quo l = some x → 1 ≤ x.2 ∧ x.2 ≤ l.length ∧ x.1.length < x.2 := by
  match h : l with
  | [] => intro x hx; rw [quo_nil] at hx; cases hx
  | c :: r =>
    intro x hx
    by_cases h1 : c.toNat = 34
    · rw [quo_end c r h1] at hx; cases hx; simp
    · cases hp : part (c :: r) with
      | none => rw [quo_no c r h1 hp] at hx; cases hx
      | some y =>
        obtain ⟨b, n⟩ := y
        have hle := part_le hp
        rw [quo_part c r b n h1 hp] at hx
        cases hq : quo ((c :: r).drop n) with
        | none => rw [hq] at hx; cases hx
        | some z =>
          have := quo_le ((c :: r).drop n) z hq
          rw [hq] at hx; cases hx
          simp only [List.length_drop, List.length_cons] at *; omega
termination_by l.length
decreasing_by subst h; simp; omega
theorem sla_nil : sla [] = none := by rw [sla]
theorem sla_end (c : UInt8) (r : List UInt8) (h : c.toNat = 47) : sla (c :: r) = some ([], 1) := by rw [sla.eq_def]; simp only [if_pos h]
theorem sla_bad (c : UInt8) (r : List UInt8) (h : c.toNat < 32) : sla (c :: r) = none := by rw [sla.eq_def]; simp only [if_neg (show ¬ c.toNat = 47 by omega), if_pos h]
theorem sla_last (c : UInt8) (h : c.toNat = 92) : sla [c] = none := by rw [sla, if_neg (by omega), if_neg (by omega), if_pos h]
theorem sla_bad2 (c d : UInt8) (r : List UInt8) (h : c.toNat = 92) (h2 : d.toNat < 32) : sla (c :: d :: r) = none := by rw [sla, if_neg (by omega), if_neg (by omega), if_pos h]; simp only [if_pos h2]
theorem sla_esc (c d : UInt8) (r : List UInt8) (h : c.toNat = 92) (h2 : d.toNat = 47) : sla (c :: d :: r) = (sla r).map fun x => (d :: x.1, 2 + x.2) := by
  rw [sla, if_neg (by omega), if_neg (by omega), if_pos h]; simp only [if_neg (show ¬ d.toNat < 32 by omega), if_pos h2]
theorem sla_two (c d : UInt8) (r : List UInt8) (h : c.toNat = 92) (h2 : 32 ≤ d.toNat) (h3 : d.toNat ≠ 47) : sla (c :: d :: r) = (sla r).map fun x => (c :: d :: x.1, 2 + x.2) := by
  rw [sla, if_neg (by omega), if_neg (by omega), if_pos h]; simp only [if_neg (show ¬ d.toNat < 32 by omega), if_neg h3]
theorem sla_one (c : UInt8) (r : List UInt8) (h : c.toNat ≠ 47) (h2 : 32 ≤ c.toNat) (h3 : c.toNat ≠ 92) : sla (c :: r) = (sla r).map fun x => (c :: x.1, 1 + x.2) := by
  rw [sla.eq_def]; simp only [if_neg h, if_neg (show ¬ c.toNat < 32 by omega), if_neg h3]
theorem sla_le (l : List UInt8) : ∀ x, sla l = some x → 1 ≤ x.2 ∧ x.2 ≤ l.length ∧ x.1.length < x.2 := by
  match h : l with
  | [] => intro x hx; rw [sla_nil] at hx; cases hx
  | c :: r =>
    intro x hx
    by_cases h1 : c.toNat = 47
    · rw [sla_end c r h1] at hx; cases hx; simp
    by_cases h2 : c.toNat < 32
    · rw [sla_bad c r h2] at hx; cases hx
    by_cases h3 : c.toNat = 92
    · match r, hx with
      | [], hx => rw [sla_last c h3] at hx; cases hx
      | d :: r, hx =>
        by_cases h4 : d.toNat < 32
        · rw [sla_bad2 c d r h3 h4] at hx; cases hx
        by_cases h5 : d.toNat = 47
        · rw [sla_esc c d r h3 h5] at hx
          cases hq : sla r with
          | none => rw [hq] at hx; cases hx
          | some z => have := sla_le r z hq; rw [hq] at hx; cases hx; simp only [List.length_cons]; omega
        · rw [sla_two c d r h3 (by omega) h5] at hx
          cases hq : sla r with
          | none => rw [hq] at hx; cases hx
          | some z => have := sla_le r z hq; rw [hq] at hx; cases hx; simp only [List.length_cons]; omega
    · rw [sla_one c r h1 (by omega) h3] at hx
      cases hq : sla r with
      | none => rw [hq] at hx; cases hx
      | some z => have := sla_le r z hq; rw [hq] at hx; cases hx; simp only [List.length_cons]; omega
termination_by l.length
decreasing_by
  all_goals subst h; simp; try omega
end Go.Proofs.YtkhhlmonhapmaaaGreatDoor
/- The reference of the lexer: span, quoted. -/
namespace Go.Proofs.YtkhhlmonhapmaaaGreatDoor
open Go.RowKit
set_option linter.unusedSimpArgs false
set_option linter.unusedVariables false
end Go.Proofs.YtkhhlmonhapmaaaGreatDoor
/- The reference of the lexer: quoted. -/
namespace Go.Proofs.YtkhhlmonhapmaaaGreatDoor
open Go.RowKit
set_option linter.unusedSimpArgs false
set_option linter.unusedVariables false
end Go.Proofs.YtkhhlmonhapmaaaGreatDoor
/- The reference of the lexer: slashed. -/
namespace Go.Proofs.YtkhhlmonhapmaaaGreatDoor
open Go.RowKit
set_option linter.unusedSimpArgs false
set_option linter.unusedVariables false
end Go.Proofs.YtkhhlmonhapmaaaGreatDoor
/- The reference of the lexer: one. -/
namespace Go.Proofs.YtkhhlmonhapmaaaGreatDoor
open Go.RowKit
set_option linter.unusedSimpArgs false
set_option linter.unusedVariables false
theorem one_word (c : UInt8) (r : List UInt8) (h : isLet c = true) : one (c :: r) = .ok (1, (c :: r).take (spn isWrd (c :: r)), spn isWrd (c :: r)) := by simp only [one, h, if_true]
theorem one_numx (c : UInt8) (r : List UInt8) (h : isLet c = false) (h2 : isDig c = true) (h3 : 18 < spn isDig (c :: r) ∨ 1 < spn isDig (c :: r) ∧ c.toNat = 48) : one (c :: r) = .error 53 := by simp only [one, h, h2, if_pos h3, if_true, Bool.false_eq_true, if_false]
theorem one_num (c : UInt8) (r : List UInt8) (h : isLet c = false) (h2 : isDig c = true) (h3 : ¬(18 < spn isDig (c :: r) ∨ 1 < spn isDig (c :: r) ∧ c.toNat = 48)) : one (c :: r) = .ok (2, (c :: r).take (spn isDig (c :: r)), spn isDig (c :: r)) := by simp only [one, h, h2, if_neg h3, if_true, Bool.false_eq_true, if_false]
theorem one_str (c : UInt8) (r : List UInt8) (h : isLet c = false) (h2 : isDig c = false) (h3 : c.toNat = 34) : one (c :: r) = match quo r with | none => .error 51 | some x => .ok (3, x.1, x.2 + 1) := by simp only [one, h, h2, if_pos h3, Bool.false_eq_true, if_false]; first | done | (cases quo r <;> rfl)
theorem one_pat (c : UInt8) (r : List UInt8) (h : isLet c = false) (h2 : isDig c = false) (h3 : c.toNat = 47) : one (c :: r) = match sla r with | none => .error 52 | some x => .ok (4, x.1, x.2 + 1) := by simp only [one, h, h2, if_neg (show ¬ c.toNat = 34 by omega), if_pos h3, Bool.false_eq_true, if_false]; first | done | (cases sla r <;> rfl)
theorem one_sign (c : UInt8) (r : List UInt8) (h : isLet c = false) (h2 : isDig c = false) (h3 : c.toNat = 123 ∨ c.toNat = 125 ∨ c.toNat = 44 ∨ c.toNat = 61) : one (c :: r) = .ok (5, [c], 1) := by simp only [one, h, h2, if_neg (show ¬ c.toNat = 34 by omega), if_neg (show ¬ c.toNat = 47 by omega), if_pos h3, Bool.false_eq_true, if_false]
theorem one_bad (c : UInt8) (r : List UInt8) (h : isLet c = false) (h2 : isDig c = false) (h3 : c.toNat ≠ 34) (h4 : c.toNat ≠ 47) (h5 : ¬(c.toNat = 123 ∨ c.toNat = 125 ∨ c.toNat = 44 ∨ c.toNat = 61)) : one (c :: r) = .error 50 := by simp only [one, h, h2, if_neg h3, if_neg h4, if_neg h5, Bool.false_eq_true, if_false]
end Go.Proofs.YtkhhlmonhapmaaaGreatDoor
/- The reference of the lexer: one, a number. -/
namespace Go.Proofs.YtkhhlmonhapmaaaGreatDoor
open Go.RowKit
set_option linter.unusedSimpArgs false
set_option linter.unusedVariables false
end Go.Proofs.YtkhhlmonhapmaaaGreatDoor
/- The reference of the lexer: one, a string and a pattern. -/
namespace Go.Proofs.YtkhhlmonhapmaaaGreatDoor
open Go.RowKit
set_option linter.unusedSimpArgs false
set_option linter.unusedVariables false
end Go.Proofs.YtkhhlmonhapmaaaGreatDoor
/- The reference of the lexer: one, a sign; whatever. -/
namespace Go.Proofs.YtkhhlmonhapmaaaGreatDoor
open Go.RowKit
set_option linter.unusedSimpArgs false
set_option linter.unusedVariables false
end Go.Proofs.YtkhhlmonhapmaaaGreatDoor
/- Of the tokens of a text: how lexGo unfolds. No program in sight. -/
namespace Go.Proofs.YtkhhlmonhapmaaaGreatDoor
open Go.RowKit
set_option linter.unusedSimpArgs false
set_option linter.unusedVariables false
theorem lexGo_end (p : Nat × Nat) (n : Nat) (l : List UInt8) (h : l.drop (skp l) = []) : lexGo p n l = .ok [⟨6, [], (plc p l).1, (plc p l).2⟩] := by
  rw [lexGo]
  split
  · rfl
  · rename_i h2; rw [h] at h2; cases h2
theorem lexGo_bad (p : Nat × Nat) (n : Nat) (l : List UInt8) (c : UInt8) (r : List UInt8) (e : Int) (h : l.drop (skp l) = c :: r) (h1 : one (c :: r) = .error e) : lexGo p n l = .error ⟨e, (plc p (l.take (skp l))).1, (plc p (l.take (skp l))).2⟩ := by
  rw [lexGo]
  split
  · rename_i h2; rw [h] at h2; cases h2
  · rename_i c' r' h2
    rw [h] at h2; cases h2
    rw [h1]
theorem lexGo_full (p : Nat × Nat) (n : Nat) (l : List UInt8) (c : UInt8) (r : List UInt8) (x : Int × List UInt8 × Nat) (h : l.drop (skp l) = c :: r) (h1 : one (c :: r) = .ok x) (hn : 2000 ≤ n) : lexGo p n l = .error ⟨1, (plc p (l.take (skp l))).1, (plc p (l.take (skp l))).2⟩ := by
  rw [lexGo]
  split
  · rename_i h2; rw [h] at h2; cases h2
  · rename_i c' r' h2
    rw [h] at h2; cases h2
    rw [h1]
    simp only [if_pos hn]
theorem lexGo_one (p : Nat × Nat) (n : Nat) (l : List UInt8) (c : UInt8) (r : List UInt8) (k : Int) (t : List UInt8) (m : Nat) (h : l.drop (skp l) = c :: r) (h1 : one (c :: r) = .ok (k, t, m)) (hm : 1 ≤ m) (hn : n < 2000) :
    lexGo p n l = (lexGo (plc p (l.take (skp l + m))) (n + 1) ((c :: r).drop m)).map (⟨k, t, (plc p (l.take (skp l))).1, (plc p (l.take (skp l))).2⟩ :: ·) := by
  rw [lexGo]
  split
  · rename_i h2; rw [h] at h2; cases h2
  · rename_i c' r' h2
    rw [h] at h2; cases h2
    rw [h1]
    simp only [if_neg (show ¬ 2000 ≤ n by omega), show max m 1 = m from by omega]
end Go.Proofs.YtkhhlmonhapmaaaGreatDoor
