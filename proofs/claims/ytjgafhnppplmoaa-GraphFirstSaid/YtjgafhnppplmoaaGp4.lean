/- Sorting by insertion: the plain facts. -/
import Derived.Test.YtjgafhnppplmoaaGr3
namespace Go.Proofs.Ytjgafhnppplmoaa
set_option linter.unusedSimpArgs false
set_option linter.unusedVariables false
/-- The first n are in order. -/
def Srt (l : List Int) (n : Nat) : Prop := ∀ a b, a < b → b < n → l.getD a 0 ≤ l.getD b 0
/-- The first n + 1 are in order, but that the one at j may be too far behind. -/
def Mid (l : List Int) (i j : Nat) : Prop := ∀ a b, a < b → b ≤ i → b ≠ j → l.getD a 0 ≤ l.getD b 0
/-- Two neighbours change places. -/
def swp (l : List Int) (j : Nat) : List Int := (l.set (j + 1) (l.getD j 0)).set j (l.getD (j + 1) 0)
theorem swp_perm (l : List Int) (j : Nat) (h : j + 1 < l.length) : (swp l j).Perm l := by
  induction l generalizing j with
  | nil => simp at h
  | cons a t ih =>
    cases j with
    | zero =>
      cases t with
      | nil => simp at h
      | cons b t => exact List.Perm.swap a b t
    | succ j => 
      have := ih j (by simpa using h)
      simpa [swp] using this
theorem swp_getD (l : List Int) (j k : Nat) (h : j + 1 < l.length) : (swp l j).getD k 0 = if k = j then l.getD (j + 1) 0 else if k = j + 1 then l.getD j 0 else l.getD k 0 := by
  induction l generalizing j k with
  | nil => simp at h
  | cons a t ih =>
    cases j with
    | zero =>
      cases t with
      | nil => simp at h
      | cons b t => rcases k with _ | _ | k <;> simp [swp]
    | succ j => 
      have := ih j
      cases k with
      | zero => simp [swp]
      | succ k => simpa [swp] using this k (by simpa using h)
theorem Mid_start {l : List Int} {i : Nat} (h : Srt l i) : Mid l i i := fun a b h1 h2 h3 => h a b h1 (by omega)
theorem Mid_zero {l : List Int} {i : Nat} (h : Mid l i 0) : Srt l (i + 1) := fun a b h1 h2 => h a b h1 (by omega) (by omega)
theorem Mid_stop {l : List Int} {i j : Nat} (h : Mid l i (j + 1)) (hj : j + 1 ≤ i) (hc : ¬ l.getD (j + 1) 0 < l.getD j 0) : Srt l (i + 1) := by
  intro a b h1 h2
  by_cases e : b = j + 1
  · subst e
    by_cases e2 : a = j
    · subst e2; omega
    · have := h a j (by omega) (by omega) (by omega); omega
  · exact h a b h1 (by omega) e
theorem Mid_swp {l : List Int} {i j : Nat} (h : Mid l i (j + 1)) (hj : j + 1 ≤ i) (hi : i < l.length) (hc : l.getD (j + 1) 0 < l.getD j 0) : Mid (swp l j) i j := by
  intro a b h1 h2 h3
  rw [swp_getD _ _ _ (by omega), swp_getD _ _ _ (by omega), if_neg h3]
  by_cases eb : b = j + 1
  · rw [if_pos eb]
    by_cases ea : a = j
    · rw [if_pos ea]; omega
    · rw [if_neg ea, if_neg (by omega)]; exact h a j (by omega) (by omega) (by omega)
  · rw [if_neg eb]
    by_cases ea : a = j
    · rw [if_pos ea]; exact h _ b (by omega) h2 eb
    · rw [if_neg ea]
      by_cases ea2 : a = j + 1
      · rw [if_pos ea2]; exact h _ b (by omega) h2 eb
      · rw [if_neg ea2]; exact h _ b h1 h2 eb
theorem Srt_all {l : List Int} (h : Srt l l.length) : l.Pairwise (· ≤ ·) := by
  rw [List.pairwise_iff_getElem]
  intro i j hi hj hij
  have := h i j hij hj
  simpa [List.getD_eq_getElem?_getD, hi, hj] using this
theorem getD_at (l : List Int) (j : Nat) (h : j < l.length) : l.getD j 0 = l[j] := by simp [List.getD_eq_getElem?_getD, h]
end Go.Proofs.Ytjgafhnppplmoaa
