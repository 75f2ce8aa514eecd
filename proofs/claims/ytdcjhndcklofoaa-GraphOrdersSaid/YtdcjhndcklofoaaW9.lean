import Derived.Test.YtdcjhndcklofoaaW8
/- A walk over symbolic memory: structs and rows that are made, conversions, stores into rows. No program in sight. -/
namespace Go.Proofs.Ytdcjhndcklofoaa
open Go.RowKit
set_option linter.unusedSimpArgs false
set_option linter.unusedVariables false
/-- Cells with parts laid in. -/
def bldA (place : Nat → Option (Nat × Nat)) (cells : List AV) : List (Nat × AV) → Option (List AV)
  | [] => some cells
  | (i, v) :: rest =>
    match place i with
    | none => none
    | some (off, size) => if v.cells.length ≠ size ∨ off + v.cells.length > cells.length then none else bldA place (spl cells off v.cells) rest
/-- Where the fields of a struct lie, and its zero. -/
def plT (P : Program) (t : TypeId) : Option (List (Nat × Nat) × List Value) :=
  match P.info? t, P.underlying t with
  | some it, some (.struct fields) =>
    match it.zero, fields.toList.mapM (fun f => (P.info? f.type).map fun i => (f.offset, i.size)) with
    | some z, some places => some (places, z.cells.toList)
    | _, _ => none
  | _, _ => none
section
variable {P : Program} {V O : Nat → Prop} {w0 w w' : World} {H H' D : List Hp} {T T' : List AV} {a : Act} {o : Oper} {K : List AV → List Hp → Prop} {ρ : Operand → AV} {ops : Array Oper} {Q : Post} {F : Nat → Prop}
theorem fold_spl (off : Nat) : ∀ (new : List Value) (k : Nat) (cells : Array Value), off + k + new.length ≤ cells.size →
    ((new.zipIdx k).foldl (fun (cs : Array Value) (x : Value × Nat) => cs.setIfInBounds (off + x.2) x.1) cells).toList = cells.toList.take (off + k) ++ new ++ cells.toList.drop (off + k + new.length)
  | [], k, cells, _ => by simp
  | v :: new, k, cells, h => by
    simp only [List.length_cons] at h
    simp only [List.zipIdx_cons, List.foldl_cons]
    rw [fold_spl off new (k + 1) _ (by simp; omega)]
    have hlen : cells.toList.length = cells.size := Array.length_toList
    have e1 : (cells.toList.set (off + k) v).take (off + k + 1) = cells.toList.take (off + k) ++ [v] := by
      rw [List.take_succ_eq_append_getElem (by simp; omega), List.take_set_of_le (Nat.le_refl _)]
      simp
    have e2 : (cells.toList.set (off + k) v).drop (off + k + 1 + new.length) = cells.toList.drop (off + k + 1 + new.length) := by
      rw [List.drop_set_of_lt (by omega)]
    simp only [Array.toList_setIfInBounds, List.length_cons, ← Nat.add_assoc]
    rw [e1, e2, show off + k + new.length + 1 = off + k + 1 + new.length from by omega]
    simp
theorem bldA_den {place : Nat → Option (Nat × Nat)} : ∀ (parts : List (Nat × AV)) (vparts : List (Nat × Value)) (cells : List AV) (vcells : Array Value) (r : List AV), bldA place cells parts = some r → DenL F w cells vcells.toList →
    (vparts.length = parts.length ∧ ∀ (j : Nat) (p : Nat × AV) (q : Nat × Value), parts[j]? = some p → vparts[j]? = some q → p.1 = q.1 ∧ DenL F w p.2.cells q.2.cells.toList) → ∃ vr, Instr.fill place vcells vparts = some vr ∧ DenL F w r vr.toList
  | [], vparts, cells, vcells, r, h, hd, hp => by
    have : vparts = [] := List.eq_nil_of_length_eq_zero (by simpa using hp.1)
    subst this
    simp only [bldA] at h; cases h
    exact ⟨vcells, rfl, hd⟩
  | (i, v) :: rest, [], cells, vcells, r, h, hd, hp => by have := hp.1; simp at this
  | (i, v) :: rest, (i', v') :: vrest, cells, vcells, r, h, hd, hp => by
    obtain ⟨e, hv⟩ := hp.2 0 (i, v) (i', v') rfl rfl
    simp only at e hv
    subst e
    simp only [bldA] at h
    simp only [Instr.fill]
    cases hpl : place i with
    | none => rw [hpl] at h; cases h
    | some x =>
      obtain ⟨off, size⟩ := x
      rw [hpl] at h
      simp only at h
      split at h
      · cases h
      · rename_i hn
        have hl := hv.len
        have hlc := hd.len
        rw [Array.length_toList] at hl hlc
        have hn1 : v.cells.length = size := by
          by_cases h1 : v.cells.length = size
          · exact h1
          · exact absurd (.inl h1) hn
        have hn2 : ¬ off + v.cells.length > cells.length := fun h1 => hn (.inr h1)
        have hcond : ¬ (v'.cells.size ≠ size ∨ off + v'.cells.size > vcells.size) := by omega
        simp only
        rw [if_neg (by simpa using hcond)]
        refine bldA_den rest vrest _ _ r h ?_ ⟨by simpa using hp.1, fun j p q h1 h2 => hp.2 (j + 1) p q (by simpa using h1) (by simpa using h2)⟩
        have hf := fold_spl off v'.cells.toList 0 vcells (by simp; omega)
        simp only [Nat.add_zero] at hf
        have : (Array.foldl (fun (cs : Array Value) (x : Value × Nat) => cs.setIfInBounds (off + x.2) x.1) vcells v'.cells.zipIdx) = ((v'.cells.toList.zipIdx 0).foldl (fun (cs : Array Value) (x : Value × Nat) => cs.setIfInBounds (off + x.2) x.1) vcells) := by
          rw [← Array.foldl_toList, Array.toList_zipIdx]
        show DenL F w (spl cells off v.cells) (Array.foldl (fun (cs : Array Value) (x : Value × Nat) => cs.setIfInBounds (off + x.2) x.1) vcells v'.cells.zipIdx).toList
        rw [this, hf]
        exact hd.spl hv off
theorem parts_den (parts : Array (Nat × Operand)) (hmem : ∀ p ∈ parts, p.2 ∈ o.op.operands) (r : OK V H ρ o a w) (hone : ∀ p ∈ parts, (ρ p.2).cells.all AV.one = true) :
    ((parts.map fun (i, x) => (i, a.eval x)).toList.length = (parts.toList.map fun p => (p.1, ρ p.2)).length ∧ ∀ (j : Nat) (p : Nat × AV) (q : Nat × Value), (parts.toList.map fun p => (p.1, ρ p.2))[j]? = some p → (parts.map fun (i, x) => (i, a.eval x)).toList[j]? = some q → p.1 = q.1 ∧ DenL (FB V H) w p.2.cells q.2.cells.toList) := by
  refine ⟨by simp, fun j p q h1 h2 => ?_⟩
  rw [List.getElem?_map] at h1
  rw [Array.toList_map, List.getElem?_map] at h2
  cases hj : parts.toList[j]? with
  | none => rw [hj] at h1; cases h1
  | some x =>
    rw [hj] at h1 h2
    cases h1; cases h2
    have hx : x ∈ parts := by simpa using List.mem_of_getElem? hj
    exact ⟨rfl, (r.ops x.2 (hmem x hx)).cells (hone x hx)⟩
/-- A struct out of its parts. -/
theorem Evl_build (t : TypeId) (parts : Array (Nat × Operand)) (places : List (Nat × Nat)) (z : List Value) (cells : List AV) (ho : o.op = .build t parts) (hpl : plT P t = some (places, z))
    (hone : (parts.toList.all fun p => (ρ p.2).cells.all AV.one) = true) (hb : bldA (places.toArray[·]?) (z.map .x) (parts.toList.map fun p => (p.1, ρ p.2)) = some cells) : Evl P o ρ H (mkA cells) := by
  intro V a w Kc Q r hKc
  unfold plT at hpl
  cases hit : P.info? t with
  | none => simp [hit] at hpl
  | some it =>
    cases hu : P.underlying t with
    | none => simp [hit, hu] at hpl
    | some d =>
      cases d <;> simp [hit, hu] at hpl
      rename_i fields
      cases hz0 : it.zero with
      | none => simp [hz0] at hpl
      | some z0 =>
      cases hm : fields.toList.mapM (fun f => (P.info? f.type).map fun i => (f.offset, i.size)) with
      | none => simp [hz0, hm] at hpl
      | some places0 =>
      simp [hz0, hm] at hpl
      obtain ⟨rfl, hz⟩ := hpl
      obtain ⟨vr, hf, hd⟩ := bldA_den (F := FB V H) (w := w) _ _ _ z0.cells cells hb (by rw [← hz]; exact DenL.exact) (parts_den parts (fun p hp => by simp [ho, Op.operands]; exact ⟨p.1, by simpa using hp⟩) r (fun p hp => List.all_eq_true.1 hone p (by simpa using hp)))
      have hbt : P.built t (parts.map fun (i, x) => (i, a.eval x)).toList = some vr := by
        unfold Program.built
        simp only [hit, hu, hz0, hm]
        exact hf
      unfold Oper.wp execOp
      simp only [ho, Sem.run_bind, run_build w t _ vr hbt, Result.andThen_ok, Sem.run_pure, Oper.upon]
      refine hKc _ _ (Below.refl _ _) ?_
      have := Den.mkA hd
      simpa using this
/-- A row out of its elements. -/
theorem Stp_buildSlice (t e : TypeId) (len : Nat) (parts : Array (Nat × Operand)) (z : Value) (size bytes : Nat) (cells : List AV) (ho : o.op = .buildSlice t len parts) (hE : ElemAt P t e z size bytes)
    (hone : (parts.toList.all fun p => (ev T p.2).cells.all AV.one) = true) (hz1 : z.cells.toList.all (·.oneCell') = true) (hlen : len * size ≤ 16777216)
    (hb : bldA (fun i => some (i * size, size)) ((List.replicate len (z.cells.toList.map .x)).flatten) (parts.toList.map fun p => (p.1, ev T p.2)) = some cells)
    (hK : ∀ b, K (putT T o.dst (.x (.slice (some ⟨b, 0, none⟩) len len))) (.row (some ⟨b, 0, none⟩) len len e size cells :: H)) : Stp P o T H K := by
  intro V O w0 a w Kc Q r hKc
  obtain ⟨i, hi, hz, hsize, hby⟩ := info_parts hE.info
  have hpos := hE.pos
  have hzs := hE.zs
  -- the zeros
  have hz2 : z.cells.toList.length = size := by rw [Array.length_toList]; exact hzs
  have hzeros : ((Array.range (len * size)).map (z.cells[· % z.cells.size]!)).toList = (List.replicate len z.cells.toList).flatten := by
    apply List.ext_getElem?
    intro j
    simp only [Array.toList_map, Array.toList_range, List.getElem?_map]
    by_cases hj : j < len * size
    · rw [List.getElem?_range hj]
      have hmod : j % size < size := Nat.mod_lt _ hpos
      have key : ∀ (n : Nat) (j : Nat), j < n * size → ((List.replicate n z.cells.toList).flatten)[j]? = z.cells.toList[j % size]? := by
        intro n
        induction n with
        | zero => intro j h; simp at h
        | succ n ih =>
          intro j h
          rw [List.replicate_succ, List.flatten_cons]
          by_cases h1 : j < size
          · rw [List.getElem?_append_left (by simp; omega), Nat.mod_eq_of_lt h1]
          · rw [List.getElem?_append_right (by simp; omega), Array.length_toList, hzs, ih (j - size) (by rw [Nat.succ_mul] at h; omega), Nat.mod_eq_sub_mod (Nat.le_of_not_lt h1)]
      rw [key len j hj]
      simp [hzs, getElem!_pos, hmod]
    · rw [List.getElem?_eq_none (by simpa using hj), List.getElem?_eq_none (by simp [hzs]; omega)]; rfl
  obtain ⟨vr, hf, hd⟩ := bldA_den (F := FB V H) (w := w) _ _ _ ((Array.range (len * size)).map (z.cells[· % z.cells.size]!)) cells hb (by
    rw [hzeros]
    have : (List.replicate len (z.cells.toList.map AV.x)).flatten = ((List.replicate len z.cells.toList).flatten).map AV.x := by
      rw [List.map_flatten, List.map_replicate]
    rw [this]; exact DenL.exact) (parts_den parts (fun p hp => by simp [ho, Op.operands]; exact ⟨p.1, by simpa using hp⟩) (r.oks o) (fun p hp => List.all_eq_true.1 hone p (by simpa using hp)))
  have hrun : (execOp a.eval o).run P w = .ok (.value (.slice (some ⟨w.heap.size, 0, none⟩) len len)) (w.alloc (.cells vr e)) := by
    have h24 : ¬ (len * i.size > 16777216) := by rw [hsize]; omega
    by_cases h0 : len * i.size = 0
    · have hf' : Instr.fill (fun j => some (j * i.size, i.size)) #[] (parts.map fun (i, x) => (i, a.eval x)).toList = some vr := by
        rw [hsize] at h0 ⊢; rw [← hf, h0]; simp [Array.range]
      have hl0 : len = 0 := by
        rw [hsize] at h0
        rcases Nat.mul_eq_zero.1 h0 with h | h
        · exact h
        · omega
      subst hl0
      have hf2 : Instr.fill (fun j => some (j * i.size, i.size)) #[] (List.map (fun x => (x.1, a.eval x.2)) parts.toList) = some vr := by rw [← hf', Array.toList_map]
      simp [execOp, ho, Instr.buildSlice, run_underlying hE.under, sizeOf, typeInfo, hi, newRow, show Array.range 0 = #[] from rfl, hf2]
    · have hf' : Instr.fill (fun j => some (j * i.size, i.size)) (Array.map (fun x => z.cells[x % z.cells.size]!) (Array.range (len * i.size))) (parts.map fun (i, x) => (i, a.eval x)).toList = some vr := by
        rw [hsize]; exact hf
      simp [execOp, ho, Instr.buildSlice, run_underlying hE.under, sizeOf, typeInfo, hi, h0, h24, zeroValue, hz, newRow] at hf' ⊢
      simp [hf']
  have hvlen : vr.size = len * size := by
    have h1 := hd.len
    have : ∀ (ps : List (Nat × AV)) (cs r : List AV), bldA (fun i => some (i * size, size)) cs ps = some r → r.length = cs.length := by
      intro ps
      induction ps with
      | nil => intro cs r h; simp only [bldA] at h; cases h; rfl
      | cons p ps ih =>
        intro cs r h
        obtain ⟨i, v⟩ := p
        simp only [bldA] at h
        split at h
        · cases h
        · rename_i hn
          rw [ih _ _ h]
          simp [spl]; omega
    have h2 := this _ _ _ hb
    rw [Array.length_toList] at h1
    rw [h1, h2]; simp [hzs]
  unfold Oper.wp
  rw [hrun]
  have hE' : Ext w (w.alloc (.cells vr e)) := Ext.al _ _
  have hones : cells.all AV.one = true := by
    have : ∀ (ps : List (Nat × AV)) (cs r : List AV), (ps.all fun p => p.2.cells.all AV.one) = true → cs.all AV.one = true → bldA (fun i => some (i * size, size)) cs ps = some r → r.all AV.one = true := by
      intro ps
      induction ps with
      | nil => intro cs r _ hc h; simp only [bldA] at h; cases h; exact hc
      | cons p ps ih =>
        intro cs r hp hc h
        obtain ⟨i, v⟩ := p
        simp only [bldA] at h
        simp only [List.all_cons, Bool.and_eq_true] at hp
        split at h
        · cases h
        · refine ih _ _ hp.2 ?_ h
          simp only [spl, List.all_append, Bool.and_eq_true]
          exact ⟨⟨List.all_eq_true.2 fun x hx => List.all_eq_true.1 hc x (List.mem_of_mem_take hx), hp.1⟩, List.all_eq_true.2 fun x hx => List.all_eq_true.1 hc x (List.mem_of_mem_drop hx)⟩
    refine this _ _ _ ?_ ?_ hb
    · rw [List.all_map]; exact hone
    · rw [List.all_eq_true]
      intro x hx
      obtain ⟨l, hl, hx⟩ := List.mem_flatten.1 hx
      rw [List.eq_of_mem_replicate hl] at hx
      obtain ⟨v, hv, rfl⟩ := List.mem_map.1 hx
      exact List.all_eq_true.1 hz1 v hv
  refine hKc _ _ _ _ (hK w.heap.size) (Rel.put (Rel.new r hE' _ (fun k hk => by cases hk; simp) ?_) _ (by rw [Den]))
  refine ⟨vr.toList, ?_, ?_, hd.one hones⟩
  · refine DenL.conv (fun k hk => ?_) (fun k hk _ => hE'.block k hk) _ _ hd
    rcases hk with hk | ⟨y, hy, e⟩
    · exact .inl (.inl hk)
    · rcases List.mem_cons.1 hy with rfl | hy
      · cases e; exact .inr (Nat.le_refl _)
      · exact .inl (.inr ⟨y, hy, e⟩)
  · have hm : len ≤ maxLen := by
      have : len * 1 ≤ len * size := Nat.mul_le_mul_left _ hpos
      unfold maxLen; omega
    have := World.ownsRow_lit (base := 0) (size := size) (e := e) w vr len (Nat.zero_le _) hm hvlen
    exact this
end
end Go.Proofs.Ytdcjhndcklofoaa
