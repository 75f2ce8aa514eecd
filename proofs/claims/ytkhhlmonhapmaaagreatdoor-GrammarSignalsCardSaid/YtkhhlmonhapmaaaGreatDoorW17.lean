import Derived.Test.YtkhhlmonhapmaaaGreatDoorW15
import Derived.Test.YtkhhlmonhapmaaaGreatDoorW16
import Derived.Test.YtkhhlmonhapmaaaGreatDoorW13
import Derived.Test.YtkhhlmonhapmaaaGreatDoorW11
import Derived.Test.YtkhhlmonhapmaaaGreatDoorW10
/- The lexer's law: how many tokens, and that a fault has a code. -/
namespace Go.Proofs.YtkhhlmonhapmaaaGreatDoor
set_option linter.unusedSimpArgs false
set_option linter.unusedVariables false
theorem lexGo_cnt : ∀ (n : Nat) (p : Nat × Nat) (i : Nat) (l : List UInt8), l.length ≤ n → i ≤ 2000 → (∀ ts, lexGo p i l = .ok ts → ts.length + i ≤ 2001) ∧ ∀ f, lexGo p i l = .error f → f.code ≠ 0
  | n, p, i, l, hn, hi0 => by
    cases hd : l.drop (skp l) with
    | nil =>
      rw [lexGo_end p i l hd]
      exact ⟨fun ts h => (by cases h; simp; omega), fun f h => by cases h⟩
    | cons c r =>
      have hlen := congrArg List.length hd
      simp only [List.length_drop, List.length_cons] at hlen
      cases h1 : one (c :: r) with
      | error e =>
        rw [lexGo_bad p i l c r e hd h1]
        refine ⟨fun ts h => (by cases h), fun f h => ?_⟩
        cases h
        have := one_err h1
        simp only; omega
      | ok x =>
        by_cases hi : 2000 ≤ i
        · rw [lexGo_full p i l c r x hd h1 hi]
          exact ⟨fun ts h => (by cases h), fun f h => by cases h; simp⟩
        · obtain ⟨a, t, m⟩ := x
          obtain ⟨g1, g2, g3, g4⟩ := one_le h1
          simp only at g1 g2 g3 g4
          rw [lexGo_one p i l c r a t m hd h1 g1 (by omega)]
          cases n with
          | zero => omega
          | succ n =>
            obtain ⟨h2, h3⟩ := lexGo_cnt n (plc p (l.take (skp l + m))) (i + 1) ((c :: r).drop m) (by simp only [List.length_drop, List.length_cons]; omega) (by omega)
            cases hr : lexGo (plc p (l.take (skp l + m))) (i + 1) ((c :: r).drop m) with
            | error e => exact ⟨fun ts h => (by cases h), fun f h => by cases h; exact h3 _ hr⟩
            | ok y =>
              refine ⟨fun ts h => ?_, fun f h => by cases h⟩
              cases h
              have := h2 y hr
              simp only [List.length_cons]; omega
end Go.Proofs.YtkhhlmonhapmaaaGreatDoor
/- The lexer's law: how many tokens, and that a fault has a code. -/
namespace Go.Proofs.YtkhhlmonhapmaaaGreatDoor
set_option linter.unusedSimpArgs false
set_option linter.unusedVariables false
/-- What is known of a text's tokens, and of its fault. -/
theorem lex_facts (l : List UInt8) : (∀ f, lex l = .error f → f.code ≠ 0) ∧ ∀ ts, lex l = .ok ts → 0 < ts.length ∧ ts.length ≤ 2001 ∧ VT ts ∧ (∀ t ∈ ts, t.text.length ≤ 1000000) ∧ l.length ≤ 8192 := by
  unfold lex
  split
  · exact ⟨fun f h => (by cases h; simp), fun ts h => by cases h⟩
  · rename_i hl
    obtain ⟨h2, h3⟩ := lexGo_cnt l.length (1, 1) 0 l (Nat.le_refl _) (by omega)
    refine ⟨h3, fun ts h => ?_⟩
    have hc := h2 ts h
    obtain ⟨qs, e, rfl, he, hq, ht⟩ := lexGo_ok l.length (1, 1) 0 l ts (Nat.le_refl _) h
    refine ⟨by simp, by omega, fun k hk hne => ?_, fun t h => (by have := ht t h; omega), by omega⟩
    simp only [List.length_append, List.length_cons, List.length_nil] at hk ⊢
    by_cases hlt : k < qs.length
    · omega
    · exfalso
      rw [List.getElem_append_right (by omega)] at hne
      simp at hne
      exact hne he
end Go.Proofs.YtkhhlmonhapmaaaGreatDoor
/- The reference's printer: numbers, policies, signals, patterns. -/
namespace Go.Proofs.YtkhhlmonhapmaaaGreatDoor
open Go.RowKit
set_option linter.unusedSimpArgs false
set_option linter.unusedVariables false
end Go.Proofs.YtkhhlmonhapmaaaGreatDoor
/- The reference of the lexer: Quote. -/
namespace Go.Proofs.YtkhhlmonhapmaaaGreatDoor
open Go.RowKit
set_option linter.unusedSimpArgs false
set_option linter.unusedVariables false
theorem Src.bytes {ρ : Operand → AV} {H : List Hp} {x : Operand} (q : Nat) (l : List UInt8) {ad : Option Addr} {n cap : Nat} {e : TypeId} {size : Nat} {cells : List AV} (hx : ρ x = .x (.slice ad n cap)) (hq : H[q]? = some (.row ad n cap e size cells)) (hn : n = l.length) (hc : cells = u8a l) : Src ρ H x l.length (u8a l) := by
  subst hn hc; exact Src.row q hx hq
end Go.Proofs.YtkhhlmonhapmaaaGreatDoor
/- The reference's printer: signals, patterns. -/
namespace Go.Proofs.YtkhhlmonhapmaaaGreatDoor
open Go.RowKit
set_option linter.unusedSimpArgs false
set_option linter.unusedVariables false
end Go.Proofs.YtkhhlmonhapmaaaGreatDoor
/- The reference's printer: a job's lines, and how long they are. -/
namespace Go.Proofs.YtkhhlmonhapmaaaGreatDoor
open Go.RowKit
set_option linter.unusedSimpArgs false
set_option linter.unusedVariables false
end Go.Proofs.YtkhhlmonhapmaaaGreatDoor
/- The reference's printer: all jobs, and how long their text is. -/
namespace Go.Proofs.YtkhhlmonhapmaaaGreatDoor
open Go.RowKit
set_option linter.unusedSimpArgs false
set_option linter.unusedVariables false
end Go.Proofs.YtkhhlmonhapmaaaGreatDoor
/- The reference's parser: are two jobs the same, but for their places. -/
namespace Go.Proofs.YtkhhlmonhapmaaaGreatDoor
open Go.RowKit
set_option linter.unusedSimpArgs false
set_option linter.unusedVariables false
end Go.Proofs.YtkhhlmonhapmaaaGreatDoor
/- The reference's parser, exact: a whole text. -/
namespace Go.Proofs.YtkhhlmonhapmaaaGreatDoor
open Go.RowKit
set_option linter.unusedSimpArgs false
set_option linter.unusedVariables false
theorem jfa_app (l m : List JF) : jfa (l ++ m) = jfa l ++ jfa m := by simp [jfa]
/-- What holds of each token that is read, holds of all. -/
theorem lexGo_all {P : Tok → Prop} (hE : ∀ p q : Nat, P ⟨6, [], p, q⟩) (hO : ∀ (l : List UInt8) a t m, one l = .ok (a, t, m) → ∀ p q : Nat, P ⟨a, t, p, q⟩) : ∀ (n : Nat) (p : Nat × Nat) (i : Nat) (l : List UInt8) (ts : List Tok), l.length ≤ n → lexGo p i l = .ok ts → ∀ t ∈ ts, P t
  | n, p, i, l, ts, hn, h => by
    cases hd : l.drop (skp l) with
    | nil =>
      rw [lexGo_end p i l hd] at h; cases h
      simpa using hE _ _
    | cons c r =>
      have hlen := congrArg List.length hd
      simp only [List.length_drop, List.length_cons] at hlen
      cases h1 : one (c :: r) with
      | error e => rw [lexGo_bad p i l c r e hd h1] at h; cases h
      | ok x =>
        by_cases hi : 2000 ≤ i
        · rw [lexGo_full p i l c r x hd h1 hi] at h; cases h
        · obtain ⟨a, t, m⟩ := x
          obtain ⟨g1, g2, g3, g4⟩ := one_le h1
          simp only at g1 g2 g3 g4
          rw [lexGo_one p i l c r a t m hd h1 g1 (by omega)] at h
          cases hr : lexGo (plc p (l.take (skp l + m))) (i + 1) ((c :: r).drop m) with
          | error e => rw [hr] at h; cases h
          | ok y =>
            rw [hr] at h
            simp only [Except.map] at h
            cases h
            cases n with
            | zero => omega
            | succ n =>
              have ht := lexGo_all hE hO n _ _ _ y (by simp only [List.length_drop, List.length_cons]; omega) hr
              intro t ht2
              rcases List.mem_cons.1 ht2 with rfl | ht2
              · exact hO _ _ _ _ h1 _ _
              · exact ht t ht2
theorem spn_take (p : UInt8 → Bool) (l : List UInt8) : l.take (spn p l) = l.takeWhile p := (List.prefix_iff_eq_take.1 (List.takeWhile_prefix p)).symm
theorem one_dig {l : List UInt8} {a : Int} {t : List UInt8} {m : Nat} (h : one l = .ok (a, t, m)) : a = 2 → t.length ≤ 18 ∧ Digits t := by
  intro ha
  subst ha
  cases l with
  | nil => simp [one] at h
  | cons c r =>
    simp only [one] at h
    split at h
    · cases h
    · split at h
      · split at h
        · cases h
        · rename_i h2
          cases h
          rw [spn_take]
          refine ⟨?_, fun x hx => ?_⟩
          · have : ((c :: r).takeWhile isDig).length = spn isDig (c :: r) := rfl
            omega
          · have := List.all_takeWhile (p := isDig) (l := c :: r)
            have hx' := (List.all_eq_true.1 this) x hx
            simpa [isDig] using hx'
      · split at h
        · split at h <;> cases h
        · split at h
          · split at h <;> cases h
          · split at h <;> cases h
/-- What is known of a text's tokens: numbers, and how long they are. -/
theorem lex_facts2 (l : List UInt8) (ts : List Tok) (h : lex l = .ok ts) : NumTok ts ∧ Short ts := by
  have hf := (lex_facts l).2 ts h
  unfold lex at h
  split at h
  · cases h
  · rename_i hl
    refine ⟨lexGo_all (P := fun t => t.kind = 2 → t.text.length ≤ 18 ∧ Digits t.text) (fun p q h => by simp at h) (fun l a t m h p q => one_dig h) l.length (1, 1) 0 l ts (Nat.le_refl _) h, ?_⟩
    obtain ⟨qs, e, rfl, he, hq, ht⟩ := lexGo_ok l.length (1, 1) 0 l ts (Nat.le_refl _) h
    exact fun t h => Nat.le_trans (ht t h) (by omega)
/-- The jobs or the fault, as they are returned. -/
def jres (x : Except Flt (List JF)) : AV := match x with
  | .ok js => .tup [.sq js.length (jfa js), .x (.agg #[.int .i64 0, .int .i64 0, .int .i64 0])]
  | .error f => .tup [.sq 0 [], f.av]
theorem gJobs_bad {ts : List Tok} {k : Nat} {out : List JF} {f : Flt} (h : (tkA ts k).kind ≠ 6) (h2 : gJob ts k (decide (32 ≤ out.length)) = .error f) : gJobs ts k out = .error f := by rw [gJobs, if_neg h, h2]
theorem gJobs_step {ts : List Tok} {k : Nat} {out : List JF} {x : JF × Nat} (h : (tkA ts k).kind ≠ 6) (h2 : gJob ts k (decide (32 ≤ out.length)) = .ok x) (h3 : k < x.2 ∧ k < ts.length) : gJobs ts k out = gJobs ts x.2 (out ++ [x.1]) := by rw [gJobs, if_neg h, h2]; simp only; rw [dif_pos h3]
theorem gJobs_end {ts : List Tok} {k : Nat} {out : List JF} (h : (tkA ts k).kind = 6) : gJobs ts k out = .ok out := by rw [gJobs, if_pos h]
theorem Got.no {α : Type} {ts : List Tok} {s s' : PS} {x : Except Flt (α × Nat)} {v : α} (h : Got ts s x s' v) (he : s.e = 0) (hb : s'.e ≠ 0) : ∃ f : Flt, x = .error f ∧ f.code ≠ 0 ∧ s'.e = f.code ∧ s'.l = f.line ∧ s'.c = f.col := by
  have h' := h.2.2.2 he
  cases x with
  | ok p => exfalso; rw [h'.2] at hb; exact hb rfl
  | error f => exact ⟨f, rfl, h'⟩
end Go.Proofs.YtkhhlmonhapmaaaGreatDoor
