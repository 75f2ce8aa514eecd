import Derived.Test.YtdcjhndcklofoaaW27
import Derived.Test.YtdcjhndcklofoaaW13
/- A walk over symbolic memory: a field of a struct's value. No program in sight. -/
namespace Go.Proofs.Ytdcjhndcklofoaa
open Go.RowKit
set_option linter.unusedSimpArgs false
set_option linter.unusedVariables false
/-- Where a field of a struct lies, and what it is. -/
def fvT (P : Program) (s : TypeId) (f : Nat) : Option (Nat × Bool × Nat) := do
  match P.underlying s with
  | some (.struct fs) =>
    let f ← fs[f]?
    let r ← aggT P f.type
    some (f.offset, r.1, r.2)
  | _ => none
class HFv (P : Program) (s : TypeId) (f : Nat) (off : outParam Nat) (agg : outParam Bool) (n : outParam Nat) : Prop where out : fvT P s f = some (off, agg, n)
section
variable {P : Program} {H : List Hp} {o : Oper}
theorem run_field (s : TypeId) (f off : Nat) (agg : Bool) (n : Nat) (h : fvT P s f = some (off, agg, n)) (w : World) (F : Nat → Prop) (cells : List AV) (vals : List Value) (hd : DenL F w cells vals) (hn : off + n ≤ cells.length) (hn0 : off < cells.length) :
    ∃ v, (Instr.field s (.agg vals.toArray) f).run P w = .ok v w ∧ Den F w (ldA agg n (cells.drop off)) v := by
  unfold fvT at h
  split at h
  · rename_i fs hu
    cases hf : fs[f]? with
    | none => simp [hf] at h
    | some fd =>
      cases hi : aggT P fd.type with
      | none => simp [hf, hi] at h
      | some i =>
        obtain ⟨b, m⟩ := i
        simp [hf, hi] at h
        obtain ⟨rfl, rfl, rfl⟩ := h
        obtain ⟨h1, h2⟩ := run_isAgg fd.type b m hi w
        have hl := hd.len
        cases b with
        | true =>
          refine ⟨.agg (((vals.drop fd.offset).take m)).toArray, ?_, ?_⟩
          · simp [Instr.field, run_underlying hu, hf, asAgg, part, h1, h2]
          · simp only [ldA, if_true]; exact Den.mkA ((hd.drop fd.offset).take m)
        | false =>
          obtain ⟨u, hu', hdu⟩ := hd.get fd.offset cells[fd.offset] (by simp [hn0])
          refine ⟨u, ?_, ?_⟩
          · simp [Instr.field, run_underlying hu, hf, asAgg, part, h1, hu']
          · simp only [ldA, Bool.false_eq_true, if_false]
            rw [List.getD_eq_getElem?_getD, List.getElem?_drop]
            simpa [List.getElem?_eq_getElem hn0] using hdu
  · cases h
theorem Evl_fv_g {ρ : Operand → AV} (s : TypeId) (x : Operand) (f off : Nat) (agg : Bool) (n : Nat) (cells : List AV) (ho : o.op = .field s x f) (hx : ∀ F w v, Den F w (ρ x) v → ∃ vals : List Value, v = .agg vals.toArray ∧ DenL F w cells vals) (ht : fvT P s f = some (off, agg, n)) (hn : off + n ≤ cells.length) (hn0 : off < cells.length) :
    Evl P o ρ H (ldA agg n (cells.drop off)) := by
  intro V a w Kc Q r hKc
  obtain ⟨vals, hv, hd⟩ := hx _ _ _ (r.ops x (by simp [ho, Op.operands]))
  obtain ⟨v, hr, hdv⟩ := run_field (P := P) s f off agg n ht w _ cells vals hd hn hn0
  unfold Oper.wp execOp
  simp only [ho, hv, Sem.run_bind, Sem.run_pure, Result.andThen_ok, hr]
  exact hKc _ _ (Below.refl _ _) hdv
/-- A field of a value whose parts are known. -/
theorem Evl_fv {ρ : Operand → AV} (s : TypeId) (x : Operand) (f off : Nat) (agg : Bool) (n : Nat) (cells : List AV) (ho : o.op = .field s x f) (hx : ρ x = .agg cells) (ht : fvT P s f = some (off, agg, n)) (hn : off + n ≤ cells.length) (hn0 : off < cells.length) :
    Evl P o ρ H (ldA agg n (cells.drop off)) := Evl_fv_g s x f off agg n cells ho (fun F w v h => by rw [hx, Den] at h; exact h) ht hn hn0
theorem Evl_fvx {ρ : Operand → AV} (s : TypeId) (x : Operand) (f off : Nat) (agg : Bool) (n : Nat) (l : List Value) (ho : o.op = .field s x f) (hx : ρ x = .x (.agg ⟨l⟩)) (ht : fvT P s f = some (off, agg, n)) (hn : off + n ≤ l.length) (hn0 : off < l.length) :
    Evl P o ρ H (ldA agg n ((l.drop off).map AV.x)) := by
  rw [List.map_drop]
  exact Evl_fv_g s x f off agg n (l.map AV.x) ho (fun F w v h => by rw [hx, Den] at h; exact ⟨l, h, DenL.exact⟩) ht (by simpa using hn) (by simpa using hn0)
end
end Go.Proofs.Ytdcjhndcklofoaa
/- Where the fields of struct values lie. Printed by a small program; each is proved by the kernel. -/
namespace Go.Proofs.Ytdcjhndcklofoaa
set_option maxRecDepth 100000
instance : HFv Try.prog 7 0 0 false 1 := ⟨by kernel_rfl⟩
instance : HFv Try.prog 7 1 1 false 1 := ⟨by kernel_rfl⟩
instance : HFv Try.prog 7 2 2 false 1 := ⟨by kernel_rfl⟩
instance : HFv Try.prog 7 3 3 false 1 := ⟨by kernel_rfl⟩
instance : HFv Try.prog 8 0 0 false 1 := ⟨by kernel_rfl⟩
instance : HFv Try.prog 8 1 1 false 1 := ⟨by kernel_rfl⟩
instance : HFv Try.prog 8 2 2 false 1 := ⟨by kernel_rfl⟩
instance : HFv Try.prog 8 3 3 false 1 := ⟨by kernel_rfl⟩
instance : HFv Try.prog 13 0 0 false 1 := ⟨by kernel_rfl⟩
instance : HFv Try.prog 13 1 1 false 1 := ⟨by kernel_rfl⟩
instance : HFv Try.prog 14 0 0 false 1 := ⟨by kernel_rfl⟩
instance : HFv Try.prog 14 1 1 false 1 := ⟨by kernel_rfl⟩
instance : HFv Try.prog 18 0 0 false 1 := ⟨by kernel_rfl⟩
instance : HFv Try.prog 19 0 0 false 1 := ⟨by kernel_rfl⟩
instance : HFv Try.prog 37 0 0 false 1 := ⟨by kernel_rfl⟩
instance : HFv Try.prog 37 1 1 false 1 := ⟨by kernel_rfl⟩
instance : HFv Try.prog 37 2 2 false 1 := ⟨by kernel_rfl⟩
instance : HFv Try.prog 37 3 3 false 1 := ⟨by kernel_rfl⟩
instance : HFv Try.prog 37 4 4 false 1 := ⟨by kernel_rfl⟩
instance : HFv Try.prog 37 5 5 false 1 := ⟨by kernel_rfl⟩
instance : HFv Try.prog 37 6 6 false 1 := ⟨by kernel_rfl⟩
instance : HFv Try.prog 37 7 7 false 1 := ⟨by kernel_rfl⟩
instance : HFv Try.prog 37 8 8 false 1 := ⟨by kernel_rfl⟩
instance : HFv Try.prog 37 9 9 false 1 := ⟨by kernel_rfl⟩
instance : HFv Try.prog 37 10 10 false 1 := ⟨by kernel_rfl⟩
instance : HFv Try.prog 37 11 11 false 1 := ⟨by kernel_rfl⟩
instance : HFv Try.prog 37 12 12 false 1 := ⟨by kernel_rfl⟩
instance : HFv Try.prog 37 13 13 false 1 := ⟨by kernel_rfl⟩
instance : HFv Try.prog 37 14 14 false 1 := ⟨by kernel_rfl⟩
instance : HFv Try.prog 38 0 0 false 1 := ⟨by kernel_rfl⟩
instance : HFv Try.prog 38 1 1 false 1 := ⟨by kernel_rfl⟩
instance : HFv Try.prog 38 2 2 false 1 := ⟨by kernel_rfl⟩
instance : HFv Try.prog 38 3 3 false 1 := ⟨by kernel_rfl⟩
instance : HFv Try.prog 38 4 4 false 1 := ⟨by kernel_rfl⟩
instance : HFv Try.prog 38 5 5 false 1 := ⟨by kernel_rfl⟩
instance : HFv Try.prog 38 6 6 false 1 := ⟨by kernel_rfl⟩
instance : HFv Try.prog 38 7 7 false 1 := ⟨by kernel_rfl⟩
instance : HFv Try.prog 38 8 8 false 1 := ⟨by kernel_rfl⟩
instance : HFv Try.prog 38 9 9 false 1 := ⟨by kernel_rfl⟩
instance : HFv Try.prog 38 10 10 false 1 := ⟨by kernel_rfl⟩
instance : HFv Try.prog 38 11 11 false 1 := ⟨by kernel_rfl⟩
instance : HFv Try.prog 38 12 12 false 1 := ⟨by kernel_rfl⟩
instance : HFv Try.prog 38 13 13 false 1 := ⟨by kernel_rfl⟩
instance : HFv Try.prog 38 14 14 false 1 := ⟨by kernel_rfl⟩
instance : HFv Try.prog 43 0 0 false 1 := ⟨by kernel_rfl⟩
instance : HFv Try.prog 43 1 1 false 1 := ⟨by kernel_rfl⟩
instance : HFv Try.prog 44 0 0 false 1 := ⟨by kernel_rfl⟩
instance : HFv Try.prog 44 1 1 false 1 := ⟨by kernel_rfl⟩
instance : HFv Try.prog 59 0 0 false 1 := ⟨by kernel_rfl⟩
instance : HFv Try.prog 59 1 1 false 1 := ⟨by kernel_rfl⟩
instance : HFv Try.prog 60 0 0 false 1 := ⟨by kernel_rfl⟩
instance : HFv Try.prog 60 1 1 false 1 := ⟨by kernel_rfl⟩
instance : HFv Try.prog 62 0 0 false 1 := ⟨by kernel_rfl⟩
instance : HFv Try.prog 62 1 1 false 1 := ⟨by kernel_rfl⟩
instance : HFv Try.prog 63 0 0 false 1 := ⟨by kernel_rfl⟩
instance : HFv Try.prog 63 1 1 false 1 := ⟨by kernel_rfl⟩
instance : HFv Try.prog 95 0 0 false 1 := ⟨by kernel_rfl⟩
instance : HFv Try.prog 95 1 1 false 1 := ⟨by kernel_rfl⟩
instance : HFv Try.prog 95 2 2 false 1 := ⟨by kernel_rfl⟩
instance : HFv Try.prog 95 3 3 false 1 := ⟨by kernel_rfl⟩
instance : HFv Try.prog 96 0 0 false 1 := ⟨by kernel_rfl⟩
instance : HFv Try.prog 96 1 1 false 1 := ⟨by kernel_rfl⟩
instance : HFv Try.prog 96 2 2 false 1 := ⟨by kernel_rfl⟩
instance : HFv Try.prog 96 3 3 false 1 := ⟨by kernel_rfl⟩
instance : HFv Try.prog 98 0 0 true 0 := ⟨by kernel_rfl⟩
instance : HFv Try.prog 99 0 0 true 0 := ⟨by kernel_rfl⟩
instance : HFv Try.prog 107 0 0 false 1 := ⟨by kernel_rfl⟩
instance : HFv Try.prog 107 1 1 false 1 := ⟨by kernel_rfl⟩
instance : HFv Try.prog 107 2 2 false 1 := ⟨by kernel_rfl⟩
instance : HFv Try.prog 107 3 3 false 1 := ⟨by kernel_rfl⟩
instance : HFv Try.prog 107 4 4 false 1 := ⟨by kernel_rfl⟩
instance : HFv Try.prog 107 5 5 false 1 := ⟨by kernel_rfl⟩
instance : HFv Try.prog 107 6 6 false 1 := ⟨by kernel_rfl⟩
instance : HFv Try.prog 107 7 7 false 1 := ⟨by kernel_rfl⟩
instance : HFv Try.prog 107 8 8 false 1 := ⟨by kernel_rfl⟩
instance : HFv Try.prog 107 9 9 false 1 := ⟨by kernel_rfl⟩
instance : HFv Try.prog 107 10 10 false 1 := ⟨by kernel_rfl⟩
instance : HFv Try.prog 108 0 0 false 1 := ⟨by kernel_rfl⟩
instance : HFv Try.prog 108 1 1 false 1 := ⟨by kernel_rfl⟩
instance : HFv Try.prog 108 2 2 false 1 := ⟨by kernel_rfl⟩
instance : HFv Try.prog 108 3 3 false 1 := ⟨by kernel_rfl⟩
instance : HFv Try.prog 108 4 4 false 1 := ⟨by kernel_rfl⟩
instance : HFv Try.prog 108 5 5 false 1 := ⟨by kernel_rfl⟩
instance : HFv Try.prog 108 6 6 false 1 := ⟨by kernel_rfl⟩
instance : HFv Try.prog 108 7 7 false 1 := ⟨by kernel_rfl⟩
instance : HFv Try.prog 108 8 8 false 1 := ⟨by kernel_rfl⟩
instance : HFv Try.prog 108 9 9 false 1 := ⟨by kernel_rfl⟩
instance : HFv Try.prog 108 10 10 false 1 := ⟨by kernel_rfl⟩
end Go.Proofs.Ytdcjhndcklofoaa
/- A walk over symbolic memory: a struct's value built out of many one-cell fields. No program in sight. -/
namespace Go.Proofs.Ytdcjhndcklofoaa
open Go.RowKit
set_option linter.unusedSimpArgs false
set_option linter.unusedVariables false
section
variable {P : Program} {H : List Hp} {o : Oper}
theorem one_cells' {av : AV} (h : av.one = true) : av.cells = [av] := by
  cases av with
  | x v =>
    simp only [AV.one] at h
    cases v <;> first | rfl | (simp [Value.oneCell'] at h)
  | sq => rfl
  | at_ => rfl
  | ifc => rfl
  | _ => simp [AV.one] at h
theorem spl_one (cells : List AV) (k : Nat) (v : AV) (h : k < cells.length) : spl cells k [v] = cells.set k v := by
  unfold spl
  rw [List.set_eq_take_append_cons_drop, if_pos h]; simp
theorem bldA_one (n : Nat) (place : Nat → Option (Nat × Nat)) (hp : ∀ i, i < n → place i = some (i, 1)) : ∀ (l : List (Nat × AV)) (cells : List AV), cells.length = n → (l.all fun p => p.2.one && decide (p.1 < n)) = true → bldA place cells l = some (l.foldl (fun c p => c.set p.1 p.2) cells)
  | [], cells, _, _ => rfl
  | (i, v) :: l, cells, hn, h => by
    simp only [List.all_cons, Bool.and_eq_true, decide_eq_true_eq] at h
    obtain ⟨⟨h1, h2⟩, h3⟩ := h
    have hc := one_cells' h1
    rw [bldA, hp i h2]
    simp only [hc, List.length_cons, List.length_nil]
    rw [if_neg (by omega), spl_one cells i v (by omega), bldA_one n place hp l _ (by simpa using hn) h3]
    rfl
/-- Are a struct's fields one cell each, in order. -/
def plain1 (places : List (Nat × Nat)) : Bool := places == (List.range places.length).map fun i => (i, 1)
theorem Evl_build1 {ρ : Operand → AV} (t : TypeId) (parts : Array (Nat × Operand)) (places : List (Nat × Nat)) (z : List Value) (ho : o.op = .build t parts) (hpl : plT P t = some (places, z)) (h1 : plain1 places = true) (hz : places.length = z.length)
    (hone : ((parts.toList.map fun p => (p.1, ρ p.2)).all fun p => p.2.one && decide (p.1 < z.length)) = true) : Evl P o ρ H (mkA ((parts.toList.map fun p => (p.1, ρ p.2)).foldl (fun c p => c.set p.1 p.2) (z.map .x))) := by
  refine Evl_build t parts places z _ ho hpl ?_ (bldA_one z.length _ (fun i hi => ?_) _ _ (by simp) hone)
  · rw [List.all_eq_true] at hone ⊢
    intro p hp
    have := hone (p.1, ρ p.2) (List.mem_map.2 ⟨p, hp, rfl⟩)
    rw [Bool.and_eq_true] at this
    rw [one_cells' this.1]; simp [this.1]
  · have h1 := eq_of_beq h1
    rw [h1, List.getElem?_toArray, List.getElem?_map, List.getElem?_range (by omega)]
    rfl
end
end Go.Proofs.Ytdcjhndcklofoaa
/- A walk over symbolic memory: a region that draws its order, in which the operations that turn memory wait one for the other: one order stands for all. No program in sight. -/
namespace Go.Proofs.Ytdcjhndcklofoaa
open Go.RowKit
set_option linter.unusedSimpArgs false
set_option linter.unusedVariables false
section
variable {P : Program} {V O : Nat → Prop} {w0 w w' : World} {B H H' D : List Hp} {T T' : List AV} {a a' : Act} {o : Oper} {Q : Post}
/-- What an operation leaves behind is its result put into its slot (or a deferred call more). -/
theorem wp_put {Kc : Act → World → Prop} {Qc : Exit → Act → World → Prop} (h : o.wp P a w (fun a' w' => ((∃ v, a' = a.put o.dst v) ∨ a'.defers ≠ []) → Kc a' w') Qc) : o.wp P a w Kc Qc := by
  unfold Oper.wp at *
  generalize (execOp a.eval o).run P w = r at *
  cases r with
  | ok n w1 =>
    cases n <;> simp only [Oper.upon] at h ⊢
    case value u => exact h (.inl ⟨u, rfl⟩)
    case skip => exact h (.inl ⟨_, rfl⟩)
    case defer d => exact h (.inr (by cases hd : o.dst <;> simp [Act.put]))
    case enter f args =>
      refine Calls.mono h fun e w2 he => ?_
      cases e with
      | returned u => exact he (.inl ⟨u, rfl⟩)
      | panicked c => exact he
      | outgrown => exact he
    case row row args => exact Rows.mono h fun u w2 he => he (.inl ⟨u, rfl⟩)
  | halt x w1 => cases x <;> simp only [Oper.upon] at h ⊢; exact h
/-- T, but for the slots at which one does not look. -/
def msk (ks : List Nat) : Nat → List AV → List AV
  | _, [] => []
  | n, v :: T => (if ks.contains n then v else .top) :: msk ks (n + 1) T
theorem msk_get (ks : List Nat) : ∀ (T : List AV) (n t : Nat), (msk ks n T)[t]? = (T[t]?).map fun v => if ks.contains (n + t) then v else .top
  | [], n, t => by simp [msk]
  | v :: T, n, 0 => by simp [msk]
  | v :: T, n, t + 1 => by
    simp only [msk, List.getElem?_cons_succ]
    rw [msk_get ks T (n + 1) t, show n + 1 + t = n + (t + 1) by omega]
theorem msk_len (ks : List Nat) (n : Nat) (T : List AV) : (msk ks n T).length = T.length := by
  induction T generalizing n with
  | nil => rfl
  | cons v T ih => simp [msk, ih]
/-- A loud operation, of whose slots only those that it looks at are as in T. -/
theorem stp_masked {ks : List Nat} {M : AV → List Hp → Prop} {TS : List AV} (h : Stp P o (msk ks 0 T) H (fun T' H' => ∃ e, T' = putT (msk ks 0 T) o.dst e ∧ M e H')) (hl : TS.length = T.length) (hk : ∀ t, ks.contains t = true → TS[t]? = T[t]?) (hdst : ∀ d, o.dst = some d → d < T.length)
    (r : Rel V O w0 (B ++ H) TS a w) (Kc : Act → World → Prop) (Qc : Exit → Act → World → Prop) (hK : ∀ e H' v w', M e H' → Rel V O w0 (B ++ H') (putT TS o.dst e) (a.put o.dst v) w' → Kc (a.put o.dst v) w') : o.wp P a w Kc Qc := by
  have ra := r.aside
  have rm : Rel (fun k => V k ∨ blks B k) (blks H) w H (msk ks 0 T) a w := { ra with
    tmps := DenL.of (by rw [msk_len, ← hl]; exact ra.tmps.len) fun t av u h1 h2 => by
      rw [msk_get, Nat.zero_add] at h1
      cases hT : T[t]? with
      | none => rw [hT] at h1; cases h1
      | some v =>
        rw [hT] at h1
        simp only [Option.map_some, Option.some.injEq] at h1
        subst h1
        split
        · rename_i hc; exact ra.tmps.get' t v u (by rw [hk t hc]; exact hT) h2
        · rw [Den]; trivial }
  refine wp_put (h _ _ _ a w _ Qc rm ?_)
  rintro T' H' a' w' ⟨e, rfl, hm⟩ r' hput
  rcases hput with ⟨v, rfl⟩ | hd
  case inr => exact absurd r'.defers hd
  obtain ⟨rj, hs⟩ := r.rejoin r'
  have hF : ∀ k, FB V (B ++ H') k → FB V (B ++ H) k ∨ w.heap.size ≤ k := fun k hk => by
    rcases (FB_app B H' k).2 hk with hk | ⟨x, hx, e⟩
    · exact .inl ((FB_app B H k).1 (.inl hk))
    · rcases r'.own x hx k e with ⟨y, hy, e'⟩ | h
      · exact .inl ((FB_app B H k).1 (.inr ⟨y, hy, e'⟩))
      · exact .inr h
  have hw : ∀ k, k < w.heap.size → ¬ FB V (B ++ H) k → w'.heap[k]? = w.heap[k]? := fun k hk hn => r'.fr.block k hk fun ⟨y, hy, e⟩ => hn (.inr ⟨y, by simp [hy], e⟩)
  have r2 : Rel V O w0 (B ++ H') TS a w' := { rj with tmps := DenL.conv hF hw _ _ r.tmps, defers := r.defers }
  refine hK e H' v w' hm ?_
  cases hd : o.dst with
  | none => simp only [Act.put, putT]; exact r2
  | some d =>
    rw [hd] at rj
    have hlt := hdst d hd
    have h1 : (putT (msk ks 0 T) (some d) e)[d]? = some e := putT_eq (by rw [msk_len]; exact hlt)
    have h2 : (a.put (some d) v).tmps.toList[d]? = some v := by
      have hal : d < a.tmps.size := by have e := r.tmps.len; rw [Array.length_toList] at e; rw [e, hl]; exact hlt
      simp [Act.put, hal]
    exact r2.put (some d) (rj.tmps.get' d e v h1 h2)
end
/-! ### One order for all -/
/-- y lies behind x's edges. -/
def reachB (l : List Oper) : Nat → Nat → Nat → Bool
  | 0, _, _ => false
  | n + 1, x, y => match l[x]? with
    | some o => o.after.toList.any fun e => e.on == y || reachB l n e.on y
    | none => false
theorem reach_S {l : List Oper} {S : Nat → Bool} (hcl : ∀ (j : Nat) (q : Oper), l[j]? = some q → S j = true → ∀ e ∈ q.after, S e.on = true) : ∀ (n x y : Nat) (o : Oper), l[x]? = some o → (∀ e ∈ o.after, S e.on = true) → reachB l n x y = true → S y = true
  | 0, _, _, _, _, _, h => by simp [reachB] at h
  | n + 1, x, y, o, hx, ha, h => by
    simp only [reachB, hx, List.any_eq_true, Bool.or_eq_true, beq_iff_eq] at h
    obtain ⟨e, he, h⟩ := h
    have he' : e ∈ o.after := by simpa using he
    rcases h with rfl | h
    · exact ha e he'
    · have hS := ha e he'
      cases n with
      | zero => simp [reachB] at h
      | succ n =>
        cases hq : l[e.on]? with
        | none => simp [reachB, hq] at h
        | some q => exact reach_S hcl (n + 1) e.on y q hq (hcl e.on q hq hS) h
/-- What is asked of the order: it names each operation once (but those of D, which wait for all, and the alloc n0, which waits for none); each comes behind what it waits for; and behind a loud one come only those that wait for it. -/
def mixOk (l : List Oper) (pi L D : List Nat) (n0 : Option Nat) : Bool :=
  regOk l && (List.range l.length).all (fun i => pi.contains i || D.contains i || n0 == some i) &&
  pi.all (fun i => decide (i < l.length) && !D.contains i && n0 != some i) && decide pi.Nodup &&
  D.all (fun d => decide (d < l.length) && n0 != some d && (List.range l.length).all fun i => D.contains i || reachB l l.length d i) &&
  (match n0 with | some i => (match l[i]? with | some o => o.after.isEmpty && o.guard.isNone | none => false) | none => true) &&
  (List.range pi.length).all (fun k => match pi[k]? with
    | some i => (match l[i]? with
      | some o => o.guard.isNone && (o.after.toList.all fun e => (pi.take k).contains e.on) && (pi.take k).all fun q => !L.contains q || reachB l l.length i q
      | none => false)
    | none => false)
structure MixOk (l : List Oper) (pi L D : List Nat) (n0 : Option Nat) : Prop where
  reg : RegOk l
  cover : ∀ i, i < l.length → i ∈ pi ∨ i ∈ D ∨ n0 = some i
  inpi : ∀ i ∈ pi, i < l.length ∧ i ∉ D ∧ n0 ≠ some i
  nodup : pi.Nodup
  dlt : ∀ d ∈ D, d < l.length ∧ n0 ≠ some d
  dall : ∀ d ∈ D, ∀ i, i < l.length → i ∈ D ∨ reachB l l.length d i = true
  alloc : ∀ i, n0 = some i → ∃ o, l[i]? = some o ∧ (∀ e, e ∉ o.after) ∧ o.guard = none
  ops : ∀ k i, pi[k]? = some i → ∃ o, l[i]? = some o ∧ o.guard = none ∧ (∀ e ∈ o.after, e.on ∈ pi.take k) ∧ ∀ q ∈ pi.take k, q ∈ L → reachB l l.length i q = true
theorem mixOk_of {l : List Oper} {pi L D : List Nat} {n0 : Option Nat} (h : mixOk l pi L D n0 = true) : MixOk l pi L D n0 := by
  unfold mixOk at h
  simp only [Bool.and_eq_true] at h
  obtain ⟨⟨⟨⟨⟨⟨h1, h2⟩, h3⟩, h4⟩, h5⟩, h6⟩, h7⟩ := h
  refine ⟨regOk_of h1, fun i hi => ?_, fun i hi => ?_, of_decide_eq_true h4, fun d hd => ?_, fun d hd i hi => ?_, fun i hi => ?_, fun k i hk => ?_⟩
  · have := List.all_eq_true.1 h2 i (List.mem_range.2 hi)
    simpa [or_assoc] using this
  · have := List.all_eq_true.1 h3 i hi
    simp at this
    exact ⟨this.1.1, this.1.2, this.2⟩
  · have := List.all_eq_true.1 h5 d hd
    simp only [Bool.and_eq_true, decide_eq_true_eq, bne_iff_ne] at this
    exact this.1
  · have := List.all_eq_true.1 h5 d hd
    simp only [Bool.and_eq_true] at this
    have := List.all_eq_true.1 this.2 i (List.mem_range.2 hi)
    simpa using this
  · subst hi
    simp only at h6
    cases ho : l[i]? with
    | none => simp [ho] at h6
    | some o =>
      simp only [ho, Bool.and_eq_true, Option.isNone_iff_eq_none] at h6
      refine ⟨o, rfl, fun e he => ?_, h6.2⟩
      have := h6.1
      rw [Array.isEmpty_iff] at this
      rw [this] at he; simp at he
  · have hkl : k < pi.length := (List.getElem?_eq_some_iff.1 hk).1
    have := List.all_eq_true.1 h7 k (List.mem_range.2 hkl)
    rw [hk] at this
    simp only at this
    cases ho : l[i]? with
    | none => simp [ho] at this
    | some o =>
      simp only [ho, Bool.and_eq_true, Option.isNone_iff_eq_none, List.all_eq_true] at this
      obtain ⟨⟨g1, g2⟩, g3⟩ := this
      refine ⟨o, rfl, g1, fun e he => ?_, fun q hq hL => ?_⟩
      · have := g2 e (by simpa using he)
        simpa using this
      · have := g3 q hq
        simpa [hL] using this
/-- The operations in that order; B: blocks that none of them turns. -/
def dm (P : Program) (B : List Hp) (l : List Oper) (L : List Nat) : List Nat → List AV → List Hp → (List AV → List Hp → Prop) → Prop
  | [], T, H, fin => fin T H
  | i :: pi, T, H, fin => ∃ o, nthO l i = some o ∧ ((L.contains i = false ∧ ∃ e, (∀ H1, Evl P o (ev T) (B ++ H1) e) ∧ dm P B l L pi (putT T o.dst e) H fin) ∨
      (L.contains i = true ∧ Stp P o (msk (looks l o) 0 T) H (fun T' H' => ∃ e, T' = putT (msk (looks l o) 0 T) o.dst e ∧ dm P B l L pi (putT T o.dst e) H' fin)))
section
variable {P : Program} {B : List Hp} {l : List Oper} {L : List Nat} {fin : List AV → List Hp → Prop} {T : List AV} {H : List Hp}
theorem dm_quiet {i : Nat} {pi : List Nat} {o : Oper} {T' : List AV} (hi : nthO l i = some o) (hL : L.contains i = false) (e : AV) (h : ∀ H1, Evl P o (ev T) (B ++ H1) e) (hT : putT T o.dst e = T') (hK : dm P B l L pi T' H fin) : dm P B l L (i :: pi) T H fin := ⟨o, hi, .inl ⟨hL, e, h, hT ▸ hK⟩⟩
theorem dm_loud {i : Nat} {pi : List Nat} {o : Oper} (hi : nthO l i = some o) (hL : L.contains i = true) (h : Stp P o (msk (looks l o) 0 T) H (fun T' H' => ∃ e, T' = putT (msk (looks l o) 0 T) o.dst e ∧ dm P B l L pi (putT T o.dst e) H' fin)) : dm P B l L (i :: pi) T H fin := ⟨o, hi, .inr ⟨hL, h⟩⟩
theorem dm_cong {pi : List Nat} {T' : List AV} {H' : List Hp} (hT : T = T') (hH : H = H') (h : dm P B l L pi T' H' fin) : dm P B l L pi T H fin := hT ▸ hH ▸ h
theorem lisT_congr (l : List Oper) (es es' : Nat → AV) (T : List AV) (S : Nat → Bool) : ∀ k, (∀ j, j < k → S j = true → es j = es' j) → lisT l es T S k = lisT l es' T S k
  | 0, _ => rfl
  | k + 1, h => by
    simp only [lisT]
    rw [lisT_congr l es es' T S k fun j hj => h j (by omega)]
    split
    · rename_i hs; rw [h k (by omega) hs]
    · rfl
/-- What an operation sees, when it may come up, is what it sees in the given order. -/
theorem lis_two {l : List Oper} (hr : RegOk l) (es : Nat → AV) (T0 : List AV) (S S' : Nat → Bool) (i : Nat) (o : Oper) (hi : l[i]? = some o) (h1 : S i = false) (h2 : S' i = false) (a1 : ∀ e ∈ o.after, S e.on = true) (a2 : ∀ e ∈ o.after, S' e.on = true)
    (c1 : ∀ (j : Nat) (q : Oper), l[j]? = some q → S j = true → ∀ e ∈ q.after, e.on ≠ i) (c2 : ∀ (j : Nat) (q : Oper), l[j]? = some q → S' j = true → ∀ e ∈ q.after, e.on ≠ i) (t : Nat) (ht : t ∈ looks l o) :
    (lisT l es T0 S l.length)[t]? = (lisT l es T0 S' l.length)[t]? := by
  by_cases hlt : t < T0.length
  · by_cases hw : ∃ (j : Nat) (q : Oper), l[j]? = some q ∧ q.dst = some t
    · obtain ⟨j, q, hj, hq⟩ := hw
      have hjl := (List.getElem?_eq_some_iff.1 hj).1
      have huniq : ∀ k, k ≠ j → (l[k]?).bind (·.dst) ≠ some t := fun k hk hb => by
        obtain ⟨q', hk', hq'⟩ := bind_dst hb
        exact hk (hr.one k j q' q t hk' hj hq' hq)
      have hdj : (l[j]?).bind (·.dst) = some t := by rw [hj]; exact hq
      have off : ∀ X : Nat → Bool, X j = false → (lisT l es T0 X l.length)[t]? = T0[t]? := fun X hX => lisT_none l es T0 X t _ fun k hk hs hb => by
        by_cases hkj : k = j
        · subst hkj; rw [hX] at hs; cases hs
        · exact huniq k hkj hb
      rcases hr.look i j o q t hi hj ht hq with rfl | ⟨e, he, rfl⟩ | ⟨e, he, rfl⟩
      · rw [off S h1, off S' h2]
      · rw [lisT_one l es T0 S t hlt _ (a1 e he) hdj huniq _ hjl, lisT_one l es T0 S' t hlt _ (a2 e he) hdj huniq _ hjl]
      · have n1 : S j = false := by
          cases hs : S j with
          | false => rfl
          | true => exact absurd rfl (c1 j q hj hs e he)
        have n2 : S' j = false := by
          cases hs : S' j with
          | false => rfl
          | true => exact absurd rfl (c2 j q hj hs e he)
        rw [off S n1, off S' n2]
    · have hn : ∀ k : Nat, (l[k]?).bind (·.dst) ≠ some t := fun k hb => by
        obtain ⟨q', hk', hq'⟩ := bind_dst hb
        exact hw ⟨k, q', hk', hq'⟩
      rw [lisT_none _ _ _ _ _ _ fun k _ _ => hn k, lisT_none _ _ _ _ _ _ fun k _ _ => hn k]
  · rw [List.getElem?_eq_none (by rw [lisT_len]; omega), List.getElem?_eq_none (by rw [lisT_len]; omega)]
theorem looks_op {l : List Oper} {o : Oper} {t : Nat} (h : Operand.tmp t ∈ o.op.operands) : t ∈ looks l o := by
  unfold looks
  exact List.mem_append_left _ (List.mem_filterMap.2 ⟨.tmp t, by simpa using h, rfl⟩)
end
end Go.Proofs.Ytdcjhndcklofoaa
