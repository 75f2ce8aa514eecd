import Derived.Test.YtkhhlmonhapmaaaGreatDoorW16
import Derived.Test.YtkhhlmonhapmaaaGreatDoorW17
import Derived.Test.YtkhhlmonhapmaaaGreatDoorW19
import Derived.Test.YtkhhlmonhapmaaaGreatDoorW12
import Derived.Test.YtkhhlmonhapmaaaGreatDoorW11
import Derived.Test.YtkhhlmonhapmaaaGreatDoorW20
/- The lexer's law: how many tokens, and that a fault has a code. -/
namespace Go.Proofs.YtkhhlmonhapmaaaGreatDoor
set_option linter.unusedSimpArgs false
set_option linter.unusedVariables false
theorem lexGo_cnt : ∀ (n : Nat) (p : Nat × Nat) (i : Nat) (l : List UInt8), l.length ≤ n → i ≤ 2000 → (∀ ts, lexGo p i l = .ok ts → ts.length + i ≤ 2001) ∧ ∀ f, lexGo p i l = .error f → f.code ≠ 0
  | n, p, i, l, hn, hi0 => by
    cases hd : l.drop (skp l) with
    | nil =>
      rw [lexGo_end p i l hd]
      exact ⟨fun ts h => (by cases h; simp; omega), fun f h => by cases h⟩
    | cons c r =>
      have hlen := congrArg List.length hd
      simp only [List.length_drop, List.length_cons] at hlen
      cases h1 : one (c :: r) with
      | error e =>
        rw [lexGo_bad p i l c r e hd h1]
        refine ⟨fun ts h => (by cases h), fun f h => ?_⟩
        cases h
        have := one_err h1
        simp only; omega
      | ok x =>
        by_cases hi : 2000 ≤ i
        · rw [lexGo_full p i l c r x hd h1 hi]
          exact ⟨fun ts h => (by cases h), fun f h => by cases h; simp⟩
        · obtain ⟨a, t, m⟩ := x
          obtain ⟨g1, g2, g3, g4⟩ := one_le h1
          simp only at g1 g2 g3 g4
          rw [lexGo_one p i l c r a t m hd h1 g1 (by omega)]
          cases n with
          | zero => omega
          | succ n =>
            obtain ⟨h2, h3⟩ := lexGo_cnt n (plc p (l.take (skp l + m))) (i + 1) ((c :: r).drop m) (by simp only [List.length_drop, List.length_cons]; omega) (by omega)
            cases hr : lexGo (plc p (l.take (skp l + m))) (i + 1) ((c :: r).drop m) with
            | error e => exact ⟨fun ts h => (by cases h), fun f h => by cases h; exact h3 _ hr⟩
            | ok y =>
              refine ⟨fun ts h => ?_, fun f h => by cases h⟩
              cases h
              have := h2 y hr
              simp only [List.length_cons]; omega
end Go.Proofs.YtkhhlmonhapmaaaGreatDoor
/- The lexer's law: how many tokens, and that a fault has a code. -/
namespace Go.Proofs.YtkhhlmonhapmaaaGreatDoor
set_option linter.unusedSimpArgs false
set_option linter.unusedVariables false
theorem lex_facts (l : List UInt8) : (∀ f, lex l = .error f → f.code ≠ 0) ∧ ∀ ts, lex l = .ok ts → 0 < ts.length ∧ ts.length ≤ 2001 ∧ VT ts ∧ (∀ t ∈ ts, t.text.length ≤ 1000000) ∧ l.length ≤ 8192 := by
  unfold lex
  split
  · exact ⟨fun f h => (by cases h; simp), fun ts h => by cases h⟩
  · rename_i hl
    obtain ⟨h2, h3⟩ := lexGo_cnt l.length (1, 1) 0 l (Nat.le_refl _) (by omega)
    refine ⟨h3, fun ts h => ?_⟩
    have hc := h2 ts h
    obtain ⟨qs, e, rfl, he, hq, ht⟩ := lexGo_ok l.length (1, 1) 0 l ts (Nat.le_refl _) h
    refine ⟨by simp, by omega, fun k hk hne => ?_, fun t h => (by have := ht t h; omega), by omega⟩
    simp only [List.length_append, List.length_cons, List.length_nil] at hk ⊢
    by_cases hlt : k < qs.length
    · omega
    · exfalso
      rw [List.getElem_append_right (by omega)] at hne
      simp at hne
      exact hne he
end Go.Proofs.YtkhhlmonhapmaaaGreatDoor
/- The reference's printer: numbers, policies, signals, patterns. -/
namespace Go.Proofs.YtkhhlmonhapmaaaGreatDoor
open Go.RowKit
set_option linter.unusedSimpArgs false
set_option linter.unusedVariables false
theorem tdiv10 (n : Nat) : Int.tdiv (n : Int) 10 = ((n / 10 : Nat) : Int) := rfl
theorem tmod10 (n : Nat) : Int.tmod (n : Int) 10 = ((n % 10 : Nat) : Int) := rfl
end Go.Proofs.YtkhhlmonhapmaaaGreatDoor
/- The reference of the lexer: Quote. -/
namespace Go.Proofs.YtkhhlmonhapmaaaGreatDoor
open Go.RowKit
set_option linter.unusedSimpArgs false
set_option linter.unusedVariables false
theorem Src.bytes {ρ : Operand → AV} {H : List Hp} {x : Operand} (q : Nat) (l : List UInt8) {ad : Option Addr} {n cap : Nat} {e : TypeId} {size : Nat} {cells : List AV} (hx : ρ x = .x (.slice ad n cap)) (hq : H[q]? = some (.row ad n cap e size cells)) (hn : n = l.length) (hc : cells = u8a l) : Src ρ H x l.length (u8a l) := by
  subst hn hc; exact Src.row q hx hq
end Go.Proofs.YtkhhlmonhapmaaaGreatDoor
/- The reference's printer: signals, patterns. -/
namespace Go.Proofs.YtkhhlmonhapmaaaGreatDoor
open Go.RowKit
set_option linter.unusedSimpArgs false
set_option linter.unusedVariables false
end Go.Proofs.YtkhhlmonhapmaaaGreatDoor
/- The reference's printer: a job's lines, and how long they are. -/
namespace Go.Proofs.YtkhhlmonhapmaaaGreatDoor
open Go.RowKit
set_option linter.unusedSimpArgs false
set_option linter.unusedVariables false
end Go.Proofs.YtkhhlmonhapmaaaGreatDoor
/- The reference's printer: all jobs, and how long their text is. -/
namespace Go.Proofs.YtkhhlmonhapmaaaGreatDoor
open Go.RowKit
set_option linter.unusedSimpArgs false
set_option linter.unusedVariables false
end Go.Proofs.YtkhhlmonhapmaaaGreatDoor
