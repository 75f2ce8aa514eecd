/- What a job needs: the plain facts. -/
import Derived.Test.YtjgafhnppplmoaaGr6
namespace Go.Proofs.Ytjgafhnppplmoaa
open Go.RowKit
set_option linter.unusedSimpArgs false
set_option linter.unusedVariables false
theorem sorted_ext : ∀ {l m : List Int}, l.Pairwise (· < ·) → m.Pairwise (· < ·) → (∀ x, x ∈ l ↔ x ∈ m) → l = m
  | [], [], _, _, _ => rfl
  | [], b :: m, _, _, h => by have := (h b).2 (List.mem_cons_self ..); simp at this
  | a :: l, [], _, _, h => by have := (h a).1 (List.mem_cons_self ..); simp at this
  | a :: l, b :: m, hl, hm, h => by
    rw [List.pairwise_cons] at hl hm
    have e : a = b := by
      rcases List.mem_cons.1 ((h a).1 (List.mem_cons_self ..)) with e | h1
      · exact e
      · rcases List.mem_cons.1 ((h b).2 (List.mem_cons_self ..)) with e | h2
        · exact e.symm
        · have := hm.1 a h1; have := hl.1 b h2; omega
    subst e
    congr 1
    refine sorted_ext hl.2 hm.2 fun x => ⟨fun hx => ?_, fun hx => ?_⟩
    · rcases List.mem_cons.1 ((h x).1 (List.mem_cons_of_mem _ hx)) with e | h1
      · subst e; have := hl.1 x hx; omega
      · exact h1
    · rcases List.mem_cons.1 ((h x).2 (List.mem_cons_of_mem _ hx)) with e | h1
      · subst e; have := hm.1 x hx; omega
      · exact h1
/-- The jobs that the first n needs of job j name. -/
def gat (l : List JA) (j : JA) (n : Nat) : List Int := ((j.needs.take n).map (idx l)).filter fun k => decide (0 ≤ k)
theorem gat_zero (l : List JA) (j : JA) : gat l j 0 = [] := by simp [gat]
theorem gat_le (l : List JA) (j : JA) (n : Nat) : (gat l j n).length ≤ n := by
  unfold gat
  refine Nat.le_trans (List.length_filter_le ..) ?_
  simp; omega
theorem gat_pos (l : List JA) (j : JA) (n : Nat) (h : n < j.needs.length) (h0 : 0 ≤ idx l (j.needs[n])) : gat l j (n + 1) = gat l j n ++ [idx l (j.needs[n])] := by
  unfold gat
  rw [take_snoc' _ n h, List.map_append, List.filter_append]
  simp [h0]
theorem gat_neg (l : List JA) (j : JA) (n : Nat) (h : n < j.needs.length) (h0 : ¬ 0 ≤ idx l (j.needs[n])) : gat l j (n + 1) = gat l j n := by
  unfold gat
  rw [take_snoc' _ n h, List.map_append, List.filter_append]
  simp [h0]
theorem ndsTo_sorted (l : List JA) (i n : Nat) : (ndsTo l i n).Pairwise (· < ·) := by
  unfold ndsTo
  rw [List.pairwise_map]
  refine List.Pairwise.imp ?_ (List.Pairwise.filter _ List.pairwise_lt_range)
  intro a b h; omega
theorem mem_ndsTo (l : List JA) (i n : Nat) (x : Int) : x ∈ ndsTo l i n ↔ ∃ k : Nat, k < n ∧ wnt l i k = true ∧ (k : Int) = x := by
  unfold ndsTo
  simp only [List.mem_map, List.mem_filter, List.mem_range]
  constructor
  · rintro ⟨k, ⟨h1, h2⟩, h3⟩; exact ⟨k, h1, h2, h3⟩
  · rintro ⟨k, h1, h2, h3⟩; exact ⟨k, ⟨h1, h2⟩, h3⟩
theorem cmp_nds (l : List JA) (i : Nat) (hi : i < l.length) (m : List Int) (hp : m.Perm (gat l l[i] l[i].needs.length)) (hs : m.Pairwise (· ≤ ·)) : cmp m = ndsTo l i l.length := by
  obtain ⟨h1, h2⟩ := cmp_sorted hs
  refine sorted_ext h1 (ndsTo_sorted ..) fun x => ?_
  rw [h2, hp.mem_iff, mem_ndsTo]
  unfold gat
  rw [List.take_length]
  simp only [List.mem_filter, List.mem_map, decide_eq_true_eq]
  constructor
  · rintro ⟨⟨s, hs, rfl⟩, h0⟩
    have := (idx_lo l s).2
    refine ⟨(idx l s).toNat, by omega, ?_, by omega⟩
    rw [wnt_eq hi, List.any_eq_true]
    exact ⟨s, hs, by rw [Int.toNat_of_nonneg h0]; simp⟩
  · rintro ⟨k, hk, hw, rfl⟩
    rw [wnt_eq hi, List.any_eq_true] at hw
    obtain ⟨s, hs, he⟩ := hw
    exact ⟨⟨s, hs, by simpa using he⟩, by omega⟩
end Go.Proofs.Ytjgafhnppplmoaa
