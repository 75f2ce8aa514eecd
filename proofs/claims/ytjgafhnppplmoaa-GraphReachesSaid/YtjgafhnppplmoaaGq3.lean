/- The dependents and the order. No program in sight. -/
import Derived.Test.YtjgafhnppplmoaaGq2
namespace Go.Proofs.Ytjgafhnppplmoaa
open Go.RowKit
set_option linter.unusedSimpArgs false
set_option linter.unusedVariables false
theorem mem_take {l : List Int} {p : Nat} {x : Int} (h : x ∈ l.take p) : ∃ q, ∃ hq : q < l.length, q < p ∧ l[q] = x := by
  obtain ⟨q, hq, e⟩ := List.mem_iff_getElem.1 h
  rw [List.length_take] at hq
  rw [List.getElem_take] at e
  exact ⟨q, by omega, by omega, e⟩
theorem take_mem {l : List Int} {q p : Nat} {x : Int} (h : x ∈ l.take q) (hqp : q ≤ p) : x ∈ l.take p := by
  obtain ⟨j, hj, hjq, e⟩ := mem_take h
  rw [← e]
  exact List.mem_iff_getElem.2 ⟨j, by rw [List.length_take]; omega, by rw [List.getElem_take]⟩
theorem dep_before {l : List JA} {i : Int} {k : Nat} (h : Dep l i k) : ∀ (p : Nat) (hp : p < (ord l).length), (ord l)[p] = (k : Int) → i ∈ (ord l).take p := by
  induction h with
  | base hk hi => intro p hp e; exact ord_right l p hp i (by rw [e]; exact hi)
  | step hk hn _ ih =>
    intro p hp e
    have := ord_right l p hp _ (by rw [e]; exact hn)
    obtain ⟨q, hq, hqp, e2⟩ := mem_take this
    exact take_mem (ih q hq e2) (Nat.le_of_lt hqp)
theorem dep_self (l : List JA) (i : Nat) (hi : i < l.length) (h : (ord l).length = l.length) : (i : Int) ∉ deps l i := by
  intro hm
  obtain ⟨k, e, hd⟩ := (mem_deps l i i).1 hm
  have e : i = k := by omega
  subst e
  have hin := full l.length (ord l) (ord_done l).1.nodup (ord_done l).1.lt h i hi
  obtain ⟨p, hp, e⟩ := List.mem_iff_getElem.1 hin
  obtain ⟨q, hq, hqp, e2⟩ := mem_take (dep_before hd p hp e)
  have := (List.getElem_inj (xs := ord l) (ord_done l).1.nodup).1 (e2.trans e.symm)
  omega
theorem deps_iff (l : List JA) (i : Int) (k : Nat) (hk : k < l.length) : ((nds l k).any fun n => n == i || decide (n ∈ deps l i)) = decide ((k : Int) ∈ deps l i) := by
  rw [Bool.eq_iff_iff, decide_eq_true_iff, List.any_eq_true, mem_deps]
  constructor
  · rintro ⟨n, hn, h⟩
    rw [Bool.or_eq_true, beq_iff_eq, decide_eq_true_iff] at h
    refine ⟨k, rfl, ?_⟩
    rcases h with h | h
    · subst h; exact .base hk hn
    · obtain ⟨j, rfl, hj⟩ := (mem_deps l i n).1 h
      exact .step hk hn hj
  · rintro ⟨j, e, hj⟩
    have e : k = j := by omega
    subst e
    cases hj with
    | base h hi => exact ⟨i, hi, by simp⟩
    | step h hn hd => exact ⟨_, hn, by rw [Bool.or_eq_true, decide_eq_true_iff]; exact .inr ((mem_deps l i _).2 ⟨_, rfl, hd⟩)⟩
/-- Of the first m needs. -/
noncomputable def anyF (l : List JA) (i : Int) (k m : Nat) : Bool := ((nds l k).take m).any fun n => n == i || decide (n ∈ deps l i)
theorem anyF_zero (l : List JA) (i : Int) (k : Nat) : anyF l i k 0 = false := by simp [anyF]
theorem anyF_succ (l : List JA) (i : Int) (k m : Nat) (h : m < (nds l k).length) : anyF l i k (m + 1) = ((anyF l i k m || (nds l k)[m] == i) || decide ((nds l k)[m] ∈ deps l i)) := by
  unfold anyF
  rw [take_snoc' _ m h, List.any_append]
  simp [Bool.or_assoc]
theorem anyF_all (l : List JA) (i : Int) (k : Nat) (hk : k < l.length) : anyF l i k (nds l k).length = decide ((k : Int) ∈ deps l i) := by
  rw [← deps_iff l i k hk]; unfold anyF; rw [List.take_of_length_le (Nat.le_refl _)]
end Go.Proofs.Ytjgafhnppplmoaa
