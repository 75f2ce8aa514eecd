/- Neighbours alike left out: the plain facts. -/
import Derived.Test.YtjgafhnppplmoaaGr5
import Derived.Test.YtjgafhnppplmoaaSl11
namespace Go.Proofs.Ytjgafhnppplmoaa
open Go.RowKit
set_option linter.unusedSimpArgs false
set_option linter.unusedVariables false
/-- Of the first m, those that differ from the one ahead of them. -/
def kp (l : List Int) (j : Nat) : Bool := j == 0 || l.getD j 0 != l.getD (j - 1) 0
def cmpTo (l : List Int) (m : Nat) : List Int := ((List.range m).filter (kp l)).map fun j => l.getD j 0
def cmp (l : List Int) : List Int := cmpTo l l.length
theorem cmpTo_succ (l : List Int) (m : Nat) : cmpTo l (m + 1) = cmpTo l m ++ if kp l m then [l.getD m 0] else [] := by
  unfold cmpTo
  rw [List.range_succ, List.filter_append, List.map_append]
  congr 1
  cases h : kp l m <;> simp [List.filter_cons, h]
theorem cmpTo_all (l : List Int) : ∀ m, m ≤ l.length → (∀ j, j < m → kp l j = true) → cmpTo l m = l.take m
  | 0, _, _ => by simp [cmpTo]
  | m + 1, h, hk => by
    rw [cmpTo_succ, cmpTo_all l m (by omega) (fun j hj => hk j (by omega)), hk m (by omega), List.take_succ_eq_append_getElem (by omega)]
    simp [List.getD_eq_getElem?_getD, show m < l.length by omega]
theorem cmp_all {l : List Int} (hk : ∀ j, j < l.length → kp l j = true) : cmp l = l := by
  rw [cmp, cmpTo_all l _ (Nat.le_refl _) hk, List.take_length]
theorem kp_pos {l : List Int} {m : Nat} (h : m < l.length) (h1 : m - 1 < l.length) (h2 : l[m] ≠ l[m - 1]) : kp l m = true := by
  unfold kp; rw [getD_at _ _ h, getD_at _ _ h1]; simp [h2]
theorem kp_neg {l : List Int} {m : Nat} (h0 : 0 < m) (h : m < l.length) (h1 : m - 1 < l.length) (h2 : l[m] = l[m - 1]) : kp l m = false := by
  unfold kp; rw [getD_at _ _ h, getD_at _ _ h1]; simp [h2]; omega
/-- Inside the second round: up to m looked at, k kept; they lie in front. -/
structure Cmp (l : List Int) (m k : Nat) (r : List Int) : Prop where
  len : r.length = l.length
  kept : r.take k = cmpTo l m
  le : k < m
  rest : ∀ j, m ≤ j + 1 → r.getD j 0 = l.getD j 0
  k0 : m ≤ l.length
theorem Cmp.start {l : List Int} {k : Nat} (h : ∀ j, j < k → kp l j = true) (hk : k < l.length) (hd : kp l k = false) : Cmp l (k + 1) k l := by
  refine ⟨rfl, ?_, by omega, fun _ _ => rfl, by omega⟩
  rw [cmpTo_succ, hd, cmpTo_all l k (by omega) h]; simp
theorem Cmp.skip {l r : List Int} {m k : Nat} (h : Cmp l m k r) (hm : m < l.length) (hk : kp l m = false) : Cmp l (m + 1) k r := by
  refine ⟨h.len, ?_, by have := h.le; omega, fun j hj => h.rest j (by omega), by omega⟩
  rw [cmpTo_succ, hk, h.kept]; simp
theorem Cmp.keep {l r : List Int} {m k : Nat} (h : Cmp l m k r) (hm : m < l.length) (hk : kp l m = true) : Cmp l (m + 1) (k + 1) (r.set k (l.getD m 0)) := by
  have hl := h.len
  have hle := h.le
  refine ⟨by simp [h.len], ?_, by omega, fun j hj => ?_, by omega⟩
  · rw [cmpTo_succ, hk, ← h.kept, List.take_succ_eq_append_getElem (by simp; omega), List.take_set_of_le (Nat.le_refl _)]
    simp
  · rw [← h.rest j (by omega)]
    simp [List.getD_eq_getElem?_getD, List.getElem?_set, show k ≠ j by omega]
theorem Cmp.at {l r : List Int} {m k : Nat} (h : Cmp l m k r) (j : Nat) (hj : m ≤ j + 1) (h1 : j < r.length) : r[j] = l.getD j 0 := by
  rw [← h.rest j hj, getD_at _ _ h1]
theorem Cmp.done {l r : List Int} {k : Nat} (h : Cmp l l.length k r) : cmp l = r.take k := h.kept.symm
theorem cmp_sorted {l : List Int} (h : l.Pairwise (· ≤ ·)) : (cmp l).Pairwise (· < ·) ∧ ∀ x, x ∈ cmp l ↔ x ∈ l := by
  have hs : Srt l l.length := by
    intro a b h1 h2
    rw [getD_at _ _ (by omega), getD_at _ _ h2]
    exact List.pairwise_iff_getElem.1 h a b (by omega) h2 h1
  have key : ∀ m, m ≤ l.length → (cmpTo l m).Pairwise (· < ·) ∧ (∀ x ∈ cmpTo l m, ∀ j, m ≤ j + 1 → 0 < m → j < l.length → x ≤ l.getD j 0) ∧ (∀ x ∈ cmpTo l m, ∃ j, j < m ∧ x = l.getD j 0) ∧ ∀ j, j < m → l.getD j 0 ∈ cmpTo l m := by
    intro m
    induction m with
    | zero => intro _; simp [cmpTo]
    | succ m ih =>
      intro hm
      obtain ⟨i1, i2, i3, i4⟩ := ih (by omega)
      rw [cmpTo_succ]
      refine ⟨?_, ?_, ?_, ?_⟩
      · cases hk : kp l m with
        | false => simpa using i1
        | true =>
          rw [if_pos rfl, List.pairwise_append]
          refine ⟨i1, by simp, fun a ha b hb => ?_⟩
          rw [List.mem_singleton] at hb
          subst hb
          obtain ⟨j, hj, rfl⟩ := i3 a ha
          have hm0 : 0 < m := by omega
          have h1 := i2 _ ha (m - 1) (by omega) hm0 (by omega)
          have h2 := hs (m - 1) m (by omega) (by omega)
          have h3 : l.getD m 0 ≠ l.getD (m - 1) 0 := by
            unfold kp at hk
            simp only [Bool.or_eq_true, beq_iff_eq, bne_iff_ne, ne_eq] at hk
            rcases hk with hk | hk
            · omega
            · exact hk
          omega
      · intro x hx j hj h0 hjl
        rcases List.mem_append.1 hx with hx | hx
        · obtain ⟨j', hj', rfl⟩ := i3 x hx
          exact hs j' j (by omega) hjl
        · cases hk : kp l m with
          | false => rw [hk] at hx; simp at hx
          | true =>
            rw [hk] at hx; simp at hx
            rw [hx]
            have : m = j ∨ m < j := by omega
            rcases this with rfl | h2
            · simp [List.getD_eq_getElem?_getD]
            · have := hs m j h2 hjl
              simpa [List.getD_eq_getElem?_getD] using this
      · intro x hx
        rcases List.mem_append.1 hx with hx | hx
        · obtain ⟨j, hj, e⟩ := i3 x hx; exact ⟨j, by omega, e⟩
        · cases hk : kp l m with
          | false => rw [hk] at hx; simp at hx
          | true => rw [hk, if_pos rfl, List.mem_singleton] at hx; exact ⟨m, by omega, hx⟩
      · intro j hj
        by_cases e : j = m
        · subst e
          cases hk : kp l j with
          | true => simp
          | false =>
            have h3 : j ≠ 0 ∧ l.getD j 0 = l.getD (j - 1) 0 := by
              unfold kp at hk
              simp only [Bool.or_eq_false_iff, beq_eq_false_iff_ne, bne_eq_false_iff_eq, ne_eq] at hk
              exact hk
            rw [h3.2]
            exact List.mem_append_left _ (i4 (j - 1) (by omega))
        · exact List.mem_append_left _ (i4 j (by omega))
  obtain ⟨k1, -, k3, k4⟩ := key l.length (Nat.le_refl _)
  refine ⟨k1, fun x => ⟨fun hx => ?_, fun hx => ?_⟩⟩
  · obtain ⟨j, hj, rfl⟩ := k3 x hx
    rw [getD_at _ _ hj]; exact List.getElem_mem hj
  · obtain ⟨j, hj, rfl⟩ := List.getElem_of_mem hx
    rw [← getD_at _ _ hj]; exact k4 j hj
end Go.Proofs.Ytjgafhnppplmoaa
