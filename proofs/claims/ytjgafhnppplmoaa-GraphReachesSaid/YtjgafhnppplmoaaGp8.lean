/- The order: the plain facts. -/
import Derived.Test.YtjgafhnppplmoaaGr7
namespace Go.Proofs.Ytjgafhnppplmoaa
open Go.RowKit
set_option linter.unusedSimpArgs false
set_option linter.unusedVariables false
theorem pigeon : ∀ (n : Nat) (d : List Int), d.Nodup → (∀ x ∈ d, 0 ≤ x ∧ x < (n : Int)) → d.length ≤ n
  | 0, d, _, h => by
    cases d with
    | nil => simp
    | cons a d => have := h a (List.mem_cons_self ..); omega
  | n + 1, d, hd, h => by
    by_cases hm : (n : Int) ∈ d
    · have h1 := pigeon n (d.erase n) (hd.erase _) (fun x hx => by
        rw [hd.mem_erase_iff] at hx
        have := h x hx.2
        have := hx.1
        omega)
      rw [List.length_erase_of_mem hm] at h1
      omega
    · have := pigeon n d hd (fun x hx => by
        have := h x hx
        have : x ≠ n := fun e => hm (e ▸ hx)
        omega)
      omega
/-- May job i come next. -/
def rdy (l : List JA) (d : List Int) (i : Nat) : Bool := !d.contains (i : Int) && (nds l i).all (d.contains ·)
def fst (l : List JA) (d : List Int) : Option Nat := (List.range l.length).find? (rdy l d)
def ordF (l : List JA) : Nat → List Int → List Int
  | 0, d => d
  | n + 1, d => match fst l d with
    | none => d
    | some i => ordF l n (d ++ [(i : Int)])
/-- The order of the jobs. -/
def ord (l : List JA) : List Int := ordF l l.length []
/-- On the way: d lies done. -/
structure Done (l : List JA) (d : List Int) : Prop where
  nodup : d.Nodup
  lt : ∀ x ∈ d, 0 ≤ x ∧ x < (l.length : Int)
  ord : ordF l (l.length - d.length) d = ord l
theorem Done.nil (l : List JA) : Done l [] := ⟨List.nodup_nil, by simp, rfl⟩
theorem Done.le {l : List JA} {d : List Int} (h : Done l d) : d.length ≤ l.length := pigeon _ d h.nodup h.lt
theorem fst_some {l : List JA} {d : List Int} {i : Nat} (hi : i < l.length) (hr : rdy l d i = true) (hn : ∀ k, k < i → rdy l d k = false) : fst l d = some i := by
  unfold fst
  rw [List.find?_eq_some_iff_append]
  refine ⟨hr, List.range i, (List.range' (i + 1) (l.length - (i + 1))), ?_, fun k hk => by rw [hn k (List.mem_range.1 hk)]; rfl⟩
  rw [List.range_eq_range', List.range_eq_range']
  have : l.length = i + (1 + (l.length - (i + 1))) := by omega
  conv => lhs; rw [this]
  rw [← List.range'_append_1, ← List.range'_append_1]
  simp [Nat.zero_add]
theorem fst_none {l : List JA} {d : List Int} (hn : ∀ k, k < l.length → rdy l d k = false) : fst l d = none := by
  unfold fst
  rw [List.find?_eq_none]
  intro k hk
  rw [hn k (List.mem_range.1 hk)]; simp
theorem Done.snoc {l : List JA} {d : List Int} (h : Done l d) {i : Nat} (hi : i < l.length) (hr : rdy l d i = true) (hn : ∀ k, k < i → rdy l d k = false) : Done l (d ++ [(i : Int)]) := by
  have hnot : (i : Int) ∉ d := by
    unfold rdy at hr
    simp only [Bool.and_eq_true, Bool.not_eq_true'] at hr
    intro hm
    rw [List.contains_iff_mem.2 hm] at hr
    simp at hr
  have hnd : (d ++ [(i : Int)]).Nodup := by
    rw [List.nodup_append]
    refine ⟨h.nodup, by simp, fun a ha b hb => ?_⟩
    rw [List.mem_singleton] at hb
    subst hb
    intro e; subst e; exact hnot ha
  have hlt : ∀ x ∈ d ++ [(i : Int)], 0 ≤ x ∧ x < (l.length : Int) := by
    intro x hx
    rcases List.mem_append.1 hx with hx | hx
    · exact h.lt x hx
    · rw [List.mem_singleton] at hx; subst hx; omega
  have hle := pigeon _ _ hnd hlt
  simp only [List.length_append, List.length_cons, List.length_nil] at hle
  refine ⟨hnd, hlt, ?_⟩
  rw [← h.ord]
  obtain ⟨n, hn2⟩ : ∃ n, l.length - d.length = n + 1 := ⟨l.length - d.length - 1, by omega⟩
  rw [hn2, show l.length - (d ++ [(i : Int)]).length = n by simp; omega]
  simp only [ordF, fst_some hi hr hn]
theorem Done.end_ {l : List JA} {d : List Int} (h : Done l d) (hn : ∀ k, k < l.length → rdy l d k = false) : d = _root_.Go.Proofs.Ytjgafhnppplmoaa.ord l := by
  rw [← h.ord]
  cases l.length - d.length with
  | zero => rfl
  | succ n => simp only [ordF, fst_none hn]
end Go.Proofs.Ytjgafhnppplmoaa
