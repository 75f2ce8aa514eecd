import Derived.Test.YtkhhlmonhapmaaaGreatDoorW15
/- No token goes over a line's end. No program in sight. -/
namespace Go.Proofs.YtkhhlmonhapmaaaGreatDoor
open Go.RowKit
set_option linter.unusedSimpArgs false
set_option linter.unusedVariables false
def noNl (l : List UInt8) : Prop := ∀ b ∈ l, b.toNat ≠ 10
theorem noNl_nil : noNl [] := fun b h => by cases h
theorem noNl_cons {c : UInt8} {r : List UInt8} (h : c.toNat ≠ 10) (hr : noNl r) : noNl (c :: r) := fun b hb => by
  rcases List.mem_cons.1 hb with rfl | hb
  · exact h
  · exact hr b hb
theorem noNl_app {a b : List UInt8} (ha : noNl a) (hb : noNl b) : noNl (a ++ b) := fun x hx => by
  rcases List.mem_append.1 hx with h | h
  · exact ha x h
  · exact hb x h
theorem plc_line : ∀ (l : List UInt8) (p : Nat × Nat), noNl l → plc p l = (p.1, p.2 + l.length)
  | [], p, _ => by simp [plc]
  | c :: r, p, h => by
    rw [plc, if_neg (h c (List.mem_cons_self ..)), plc_line r _ (fun b hb => h b (List.mem_cons_of_mem _ hb))]
    simp; omega
theorem hexv_nl {b : UInt8} {n : Nat} (h : hexv b = some n) : b.toNat ≠ 10 := by
  unfold hexv at h
  split at h
  · omega
  · split at h
    · omega
    · split at h
      · omega
      · cases h
theorem escd_line {l : List UInt8} {b : UInt8} {n : Nat} (h : escd l = some (b, n)) : noNl (l.take n) := by
  unfold escd at h
  split at h
  · cases h
  · rename_i d r
    split at h
    · cases h; exact noNl_cons (by omega) noNl_nil
    · split at h
      · cases h; exact noNl_cons (by omega) noNl_nil
      · split at h
        · cases h; exact noNl_cons (by omega) noNl_nil
        · split at h
          · split at h
            · split at h
              · rename_i h1 h2
                cases h; exact noNl_cons (by omega) (noNl_cons (hexv_nl h1) (noNl_cons (hexv_nl h2) noNl_nil))
              · cases h
            · cases h
          · cases h
theorem part_line {l : List UInt8} {b : UInt8} {n : Nat} (h : part l = some (b, n)) : noNl (l.take n) := by
  unfold part at h
  split at h
  · cases h
  · rename_i c r
    split at h
    · cases h
    · split at h
      · cases h; exact noNl_cons (by omega) noNl_nil
      · cases he : escd r with
        | none => rw [he] at h; cases h
        | some x => rw [he] at h; cases h; rw [List.take_succ_cons]; exact noNl_cons (by omega) (escd_line he)
theorem quo_line (l : List UInt8) : ∀ x, quo l = some x → noNl (l.take x.2) := by
  match h : l with
  | [] => intro x hx; rw [quo_nil] at hx; cases hx
  | c :: r =>
    intro x hx
    by_cases h1 : c.toNat = 34
    · rw [quo_end c r h1] at hx; cases hx; exact noNl_cons (by omega) noNl_nil
    · cases hp : part (c :: r) with
      | none => rw [quo_no c r h1 hp] at hx; cases hx
      | some y =>
        obtain ⟨b, n⟩ := y
        have hle := part_le hp
        rw [quo_part c r b n h1 hp] at hx
        cases hq : quo ((c :: r).drop n) with
        | none => rw [hq] at hx; cases hx
        | some z =>
          have := quo_line ((c :: r).drop n) z hq
          rw [hq] at hx; cases hx
          simp only
          rw [List.take_add]
          exact noNl_app (part_line hp) this
termination_by l.length
decreasing_by subst h; simp; omega
theorem sla_line (l : List UInt8) : ∀ x, sla l = some x → noNl (l.take x.2) := by
  match h : l with
  | [] => intro x hx; rw [sla_nil] at hx; cases hx
  | c :: r =>
    intro x hx
    by_cases h1 : c.toNat = 47
    · rw [sla_end c r h1] at hx; cases hx; exact noNl_cons (by omega) noNl_nil
    by_cases h2 : c.toNat < 32
    · rw [sla_bad c r h2] at hx; cases hx
    by_cases h3 : c.toNat = 92
    · match r, hx with
      | [], hx => rw [sla_last c h3] at hx; cases hx
      | d :: r, hx =>
        by_cases h4 : d.toNat < 32
        · rw [sla_bad2 c d r h3 h4] at hx; cases hx
        by_cases h5 : d.toNat = 47
        · rw [sla_esc c d r h3 h5] at hx
          cases hq : sla r with
          | none => rw [hq] at hx; cases hx
          | some z => have := sla_line r z hq; rw [hq] at hx; cases hx; simp only [Nat.add_comm 2, List.take_succ_cons]; exact noNl_cons (by omega) (noNl_cons (by omega) this)
        · rw [sla_two c d r h3 (by omega) h5] at hx
          cases hq : sla r with
          | none => rw [hq] at hx; cases hx
          | some z => have := sla_line r z hq; rw [hq] at hx; cases hx; simp only [Nat.add_comm 2, List.take_succ_cons]; exact noNl_cons (by omega) (noNl_cons (by omega) this)
    · rw [sla_one c r h1 (by omega) h3] at hx
      cases hq : sla r with
      | none => rw [hq] at hx; cases hx
      | some z => have := sla_line r z hq; rw [hq] at hx; cases hx; simp only [Nat.add_comm 1, List.take_succ_cons]; exact noNl_cons (by omega) this
termination_by l.length
decreasing_by
  all_goals subst h; simp; try omega
theorem spn_line (p : UInt8 → Bool) (hp : ∀ b, p b = true → b.toNat ≠ 10) : ∀ l : List UInt8, noNl (l.take (spn p l))
  | [] => noNl_nil
  | c :: r => by
    cases h : p c with
    | false => rw [spn_no _ _ _ h]; exact noNl_nil
    | true => rw [spn_yes _ _ _ h, List.take_succ_cons]; exact noNl_cons (hp c h) (spn_line p hp r)
theorem one_line {l : List UInt8} {x : Int × List UInt8 × Nat} (h : one l = .ok x) : noNl (l.take x.2.2) := by
  cases l with
  | nil => simp [one] at h
  | cons c r =>
    simp only [one] at h
    split at h
    · cases h
      exact spn_line isWrd (fun b hb => by simp only [isWrd, isDig, isLet, Bool.or_eq_true, decide_eq_true_eq] at hb; omega) _
    · split at h
      · split at h
        · cases h
        · cases h
          exact spn_line isDig (fun b hb => by simp only [isDig, decide_eq_true_eq] at hb; omega) _
      · split at h
        · cases hq : quo r with
          | none => rw [hq] at h; cases h
          | some y => rw [hq] at h; cases h; exact noNl_cons (by omega) (quo_line r y hq)
        · split at h
          · cases hq : sla r with
            | none => rw [hq] at h; cases h
            | some y => rw [hq] at h; cases h; exact noNl_cons (by omega) (sla_line r y hq)
          · split at h
            · cases h; exact noNl_cons (by omega) noNl_nil
            · cases h
theorem plc_tok {l : List UInt8} {k : Nat} {a : Int} {t : List UInt8} {m : Nat} (h : one (l.drop k) = .ok (a, t, m)) : plc (1, 1) (l.take (k + m)) = ((plc (1, 1) (l.take k)).1, (plc (1, 1) (l.take k)).2 + m) := by
  rw [← plc_at, plc_line _ _ (one_line h), List.length_take]
  have := one_le h
  simp only at this
  rw [Nat.min_eq_left this.2.1]
end Go.Proofs.YtkhhlmonhapmaaaGreatDoor
