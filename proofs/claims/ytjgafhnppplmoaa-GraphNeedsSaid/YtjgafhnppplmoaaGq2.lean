/- What needs a job over any number of steps: the two ways to find it. No program in sight. -/
import Derived.Test.YtjgafhnppplmoaaGq1
namespace Go.Proofs.Ytjgafhnppplmoaa
open Go.RowKit
set_option linter.unusedSimpArgs false
set_option linter.unusedVariables false
/-- Job k needs job i, over any number of steps. -/
inductive Dep (l : List JA) (i : Int) : Nat → Prop
  | base {k : Nat} : k < l.length → i ∈ nds l k → Dep l i k
  | step {k n : Nat} : k < l.length → (n : Int) ∈ nds l k → Dep l i n → Dep l i k
theorem Dep.lt {l : List JA} {i : Int} {k : Nat} (h : Dep l i k) : k < l.length := by cases h <;> assumption
/-- The marked ones among the first n. -/
def trues (f : List Bool) (n : Nat) : List Int := ((List.range n).filter fun k => f.getD k false).map fun (k : Nat) => (k : Int)
theorem trues_succ (f : List Bool) (n : Nat) (h : n < f.length) : trues f (n + 1) = trues f n ++ if f[n] then [(n : Int)] else [] := by
  unfold trues
  rw [List.range_succ, List.filter_append, List.map_append]
  congr 1
  cases hw : f[n] <;> simp [List.filter_cons, List.getD, h, hw]
theorem trues_le (f : List Bool) (n : Nat) : (trues f n).length ≤ n := by
  unfold trues
  rw [List.length_map]
  exact Nat.le_trans (List.length_filter_le _ _) (by simp)
theorem mem_trues (f : List Bool) (n : Nat) (x : Int) : x ∈ trues f n ↔ ∃ k : Nat, k < n ∧ f[k]? = some true ∧ x = k := by
  unfold trues
  simp only [List.mem_map, List.mem_filter, List.mem_range]
  constructor
  · rintro ⟨k, ⟨h1, h2⟩, rfl⟩
    refine ⟨k, h1, ?_, rfl⟩
    simp only [List.getD] at h2
    cases h : f[k]? with
    | none => rw [h] at h2; simp at h2
    | some b => rw [h] at h2; simp at h2; rw [h2]
  · rintro ⟨k, h1, h2, rfl⟩
    exact ⟨k, ⟨h1, by simp [List.getD, h2]⟩, rfl⟩
noncomputable def depm (l : List JA) (i : Int) : List Bool := (List.range l.length).map fun k => @decide (Dep l i k) (Classical.propDecidable _)
/-- Those that need job i over any number of steps, ascending. -/
noncomputable def deps (l : List JA) (i : Int) : List Int := trues (depm l i) l.length
theorem mem_deps (l : List JA) (i x : Int) : x ∈ deps l i ↔ ∃ k : Nat, x = k ∧ Dep l i k := by
  unfold deps
  rw [mem_trues]
  constructor
  · rintro ⟨k, h1, h2, rfl⟩
    refine ⟨k, rfl, ?_⟩
    simpa [depm, h1] using h2
  · rintro ⟨k, rfl, h⟩
    refine ⟨k, h.lt, ?_, rfl⟩
    simpa [depm, h.lt] using h
theorem deps_le (l : List JA) (i : Int) : (deps l i).length ≤ l.length := trues_le _ _
theorem depm_of (l : List JA) (i : Int) (f : List Bool) (hl : f.length = l.length) (h : ∀ k, k < l.length → (f[k]? = some true ↔ Dep l i k)) : f = depm l i := by
  apply List.ext_getElem?
  intro k
  by_cases hk : k < l.length
  · have h1 : f[k]? = some f[k] := by simp [hl, hk]
    have h2 : (depm l i)[k]? = some (@decide (Dep l i k) (Classical.propDecidable _)) := by simp [depm, hk]
    rw [h1, h2]
    congr 1
    rw [Bool.eq_iff_iff, ← Option.some_inj, ← h1, h k hk, @decide_eq_true_iff _ (Classical.propDecidable _)]
  · rw [List.getElem?_eq_none (by omega), List.getElem?_eq_none (by simp [depm]; omega)]
theorem deps_of (l : List JA) (i : Int) (f : List Bool) (hl : f.length = l.length) (h : ∀ k, k < l.length → (f[k]? = some true ↔ Dep l i k)) : trues f l.length = deps l i := by
  unfold deps
  rw [← depm_of l i f hl h]

/-! ### With a queue -/

def Fnd (i : Int) (f : List Bool) (y : Int) : Prop := y = i ∨ ∃ k : Nat, y = k ∧ f[k]? = some true
structure Bfs (l : List JA) (i : Int) (f : List Bool) (q : List Int) : Prop where
  len : f.length = l.length
  dep : ∀ k, f[k]? = some true → Dep l i k
  src : ∀ x ∈ q, Fnd i f x
  clo : ∀ y, Fnd i f y → y ∈ q ∨ ∀ k : Nat, k < l.length → y ∈ nds l k → f[k]? = some true
structure Bfn (l : List JA) (i : Int) (f : List Bool) (q : List Int) (x : Int) (n : Nat) : Prop where
  len : f.length = l.length
  dep : ∀ k, f[k]? = some true → Dep l i k
  src : ∀ x ∈ q, Fnd i f x
  cur : Fnd i f x
  clo : ∀ y, Fnd i f y → y ∈ q ∨ y = x ∨ ∀ k : Nat, k < l.length → y ∈ nds l k → f[k]? = some true
  now : ∀ k : Nat, k < n → k < l.length → x ∈ nds l k → f[k]? = some true
theorem Bfs.start (l : List JA) (i : Int) : Bfs l i (List.replicate l.length false) [i] where
  len := by simp
  dep := fun k h => by rw [List.getElem?_replicate] at h; split at h <;> simp at h
  src := fun x hx => .inl (by simpa using hx)
  clo := fun y hy => by
    rcases hy with rfl | ⟨k, -, h⟩
    · exact .inl (by simp)
    · rw [List.getElem?_replicate] at h; split at h <;> simp at h
section
variable {l : List JA} {i x : Int} {f : List Bool} {q : List Int} {n : Nat}
theorem Bfs.pop (h : Bfs l i f (x :: q)) : Bfn l i f q x 0 where
  len := h.len
  dep := h.dep
  src := fun y hy => h.src y (List.mem_cons_of_mem _ hy)
  cur := h.src x (List.mem_cons_self ..)
  clo := fun y hy => by
    rcases h.clo y hy with h | h
    · rcases List.mem_cons.1 h with h | h
      · exact .inr (.inl h)
      · exact .inl h
    · exact .inr (.inr h)
  now := fun k hk => absurd hk (Nat.not_lt_zero k)
theorem Bfn.skip (h : Bfn l i f q x n) (hn : n < l.length → x ∈ nds l n → f[n]? = some true) : Bfn l i f q x (n + 1) :=
  ⟨h.len, h.dep, h.src, h.cur, h.clo, fun k hk hl hx => if e : k = n then e ▸ hn (e ▸ hl) (e ▸ hx) else h.now k (by omega) hl hx⟩
theorem get_set_true (f : List Bool) (n k : Nat) (h : f[k]? = some true) : (f.set n true)[k]? = some true := by
  rw [List.getElem?_set]
  split
  · rename_i e; subst e
    have : n < f.length := by
      rw [List.getElem?_eq_some_iff] at h; exact h.1
    simp [this]
  · exact h
theorem Fnd.set {y : Int} (h : Fnd i f y) (n : Nat) : Fnd i (f.set n true) y := by
  rcases h with h | ⟨k, e, h⟩
  · exact .inl h
  · exact .inr ⟨k, e, get_set_true f n k h⟩
theorem Fnd.of_set {y : Int} (h : Fnd i (f.set n true) y) : Fnd i f y ∨ y = n := by
  rcases h with h | ⟨k, e, h⟩
  · exact .inl (.inl h)
  · rw [List.getElem?_set] at h
    split at h
    · rename_i e2; subst e2; exact .inr e
    · exact .inl (.inr ⟨k, e, h⟩)
theorem Bfn.depOf (h : Bfn l i f q x n) (hn : n < l.length) (hx : x ∈ nds l n) : Dep l i n := by
  rcases h.cur with e | ⟨k, e, hk⟩
  · subst e; exact .base hn hx
  · subst e; exact .step hn hx (h.dep k hk)
theorem Bfn.push (h : Bfn l i f q x n) (hn : n < l.length) (hx : x ∈ nds l n) : Bfn l i (f.set n true) (q ++ [(n : Int)]) x (n + 1) where
  len := by rw [List.length_set]; exact h.len
  dep := fun k hk => by
    rw [List.getElem?_set] at hk
    split at hk
    · rename_i e; subst e; exact h.depOf hn hx
    · exact h.dep k hk
  src := fun y hy => by
    rcases List.mem_append.1 hy with hy | hy
    · exact (h.src y hy).set n
    · rw [List.mem_singleton] at hy
      exact .inr ⟨n, hy, by rw [List.getElem?_set]; simp [h.len, hn]⟩
  cur := h.cur.set n
  clo := fun y hy => by
    rcases hy.of_set with hy | hy
    · rcases h.clo y hy with h1 | h1 | h1
      · exact .inl (List.mem_append_left _ h1)
      · exact .inr (.inl h1)
      · exact .inr (.inr fun k hk hx => get_set_true f n k (h1 k hk hx))
    · exact .inl (List.mem_append_right _ (by simp [hy]))
  now := fun k hk hl hx2 => by
    by_cases e : k = n
    · subst e; rw [List.getElem?_set]; simp [h.len, hn]
    · exact get_set_true f n k (h.now k (by omega) hl hx2)
theorem Bfn.fin (h : Bfn l i f q x l.length) : Bfs l i f q where
  len := h.len
  dep := h.dep
  src := h.src
  clo := fun y hy => by
    rcases h.clo y hy with h1 | h1 | h1
    · exact .inl h1
    · subst h1; exact .inr fun k hk hx => h.now k hk hk hx
    · exact .inr h1
theorem closed_all (hl : ∀ k, Dep l i k → Dep l i k) (h1 : ∀ k : Nat, k < l.length → i ∈ nds l k → f[k]? = some true) (h2 : ∀ n k : Nat, k < l.length → (n : Int) ∈ nds l k → f[n]? = some true → f[k]? = some true) : ∀ k, Dep l i k → f[k]? = some true := by
  intro k hk
  induction hk with
  | base h hi => exact h1 _ h hi
  | step h hn _ ih => exact h2 _ _ h hn ih
theorem Bfs.done (h : Bfs l i f []) : trues f l.length = deps l i := by
  refine deps_of l i f h.len fun k hk => ⟨h.dep k, closed_all (fun _ x => x) (fun k hk hi => ?_) (fun n k hk hn hf => ?_) k⟩
  · rcases h.clo i (.inl rfl) with h1 | h1
    · cases h1
    · exact h1 k hk hi
  · rcases h.clo n (.inr ⟨n, rfl, hf⟩) with h1 | h1
    · cases h1
    · exact h1 k hk hn
end
/-- How many are not marked. -/
def unf (f : List Bool) : Nat := f.count false
theorem unf_set (f : List Bool) (n : Nat) (h : n < f.length) (hf : f[n] = false) : unf (f.set n true) + 1 = unf f := by
  unfold unf
  induction f generalizing n with
  | nil => simp at h
  | cons b f ih =>
    cases n with
    | zero => simp at hf; subst hf; simp
    | succ n =>
      simp only [List.set_cons_succ, List.count_cons]
      have := ih n (by simpa using h) (by simpa using hf)
      omega

/-! ### By rounds -/

/-- In a round: what is marked is so by right; if nothing was marked in it, the first n are closed. -/
structure Rnd (l : List JA) (i : Int) (f : List Bool) (again : Bool) (n : Nat) : Prop where
  len : f.length = l.length
  dep : ∀ k, f[k]? = some true → Dep l i k
  clo : again = false → ∀ k : Nat, k < n → k < l.length → ∀ x ∈ nds l k, Fnd i f x → f[k]? = some true
section
variable {l : List JA} {i : Int} {f : List Bool} {g : Bool} {n : Nat}
theorem Rnd.start (l : List JA) (i : Int) (n : Nat) : Rnd l i (List.replicate l.length false) true n where
  len := by simp
  dep := fun k h => by rw [List.getElem?_replicate] at h; split at h <;> simp at h
  clo := fun h => by cases h
theorem Rnd.round (h : Rnd l i f g n) : Rnd l i f false 0 := { h with clo := fun _ k hk => absurd hk (Nat.not_lt_zero k) }
theorem Rnd.next (h : Rnd l i f g n) (hn : g = false → n < l.length → ∀ x ∈ nds l n, Fnd i f x → f[n]? = some true) : Rnd l i f g (n + 1) :=
  ⟨h.len, h.dep, fun hg k hk hl x hx hf => if e : k = n then e ▸ hn hg (e ▸ hl) x (e ▸ hx) hf else h.clo hg k (by omega) hl x hx hf⟩
theorem Rnd.mark (h : Rnd l i f g n) (hn : n < l.length) (x : Int) (hx : x ∈ nds l n) (hf : Fnd i f x) (m : Nat) : Rnd l i (f.set n true) true m where
  len := by rw [List.length_set]; exact h.len
  dep := fun k hk => by
    rw [List.getElem?_set] at hk
    split at hk
    · rename_i e; subst e
      rcases hf with e | ⟨j, e, hj⟩
      · subst e; exact .base hn hx
      · subst e; exact .step hn hx (h.dep j hj)
    · exact h.dep k hk
  clo := fun h => by cases h
theorem Rnd.done (h : Rnd l i f false l.length) : trues f l.length = deps l i :=
  deps_of l i f h.len fun k hk => ⟨h.dep k, closed_all (fun _ x => x) (fun k hk hi => h.clo rfl k hk hk i hi (.inl rfl)) (fun n k hk hn hf => h.clo rfl k hk hk n hn (.inr ⟨n, rfl, hf⟩)) k⟩
end
theorem deps_out (l : List JA) (i : Int) (h : ¬(0 ≤ i ∧ i < (l.length : Int))) : deps l i = [] := by
  have : ∀ k, ¬ Dep l i k := fun k hk => by
    induction hk with
    | base h1 hi => exact h (nds_lt l _ i hi)
    | step _ _ _ ih => exact ih
  apply List.eq_nil_iff_forall_not_mem.2
  intro x hx
  obtain ⟨k, -, hk⟩ := (mem_deps l i x).1 hx
  exact this k hk
end Go.Proofs.Ytjgafhnppplmoaa
