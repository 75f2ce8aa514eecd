import Derived.Test.YtfaljkenmbbbaaaDoorW1
/- A walk over symbolic memory: addresses, slices, append. No program in sight. -/
namespace Go.Proofs.YtfaljkenmbbbaaaDoor
open Go.RowKit
set_option linter.unusedSimpArgs false
set_option linter.unusedVariables false
/-- Where a field lies. -/
def fldT (P : Program) (s : TypeId) (f : Nat) : Option Nat := do
  match P.underlying s with
  | some (.struct fs) =>
    let f ← fs[f]?
    let i ← P.info? f.type
    if i.size = 0 then none else some f.offset
  | _ => none
/-- How many cells an element of a slice has. -/
def elT (P : Program) (t : TypeId) : Option (TypeId × Nat) := do
  match P.underlying t with
  | some (.slice e) =>
    let i ← P.info? e
    some (e, i.size)
  | _ => none
section
variable {P : Program} {V O : Nat → Prop} {w0 w w' : World} {H H' : List Hp} {T : List AV} {a : Act} {o : Oper} {K : List AV → List Hp → Prop}
theorem add_none (b off j : Nat) : (⟨b, off, none⟩ : Addr).add j = ⟨b, off + j, none⟩ := by unfold Addr.add; split <;> simp_all
theorem run_fieldAt (s : TypeId) (f k : Nat) (h : fldT P s f = some k) (b off : Nat) (w : World) : (Instr.fieldAt s (.pointer (some ⟨b, off, none⟩)) f).run P w = .ok (.pointer (some ⟨b, off + k, none⟩)) w := by
  unfold fldT at h
  split at h
  · rename_i fs hu
    cases hf : fs[f]? with
    | none => simp [hf] at h
    | some fd =>
      cases hi : P.info? fd.type with
      | none => simp [hf, hi] at h
      | some i =>
        simp [hf, hi] at h
        obtain ⟨h1, rfl⟩ := h
        simp [Instr.fieldAt, run_underlying hu, hf, Instr.sureAddr, fieldPlace, sizeOf, typeInfo, hi, h1, add_none]
  · cases h
theorem wp_field_of {Kc : Act → World → Prop} {Q : Exit → Act → World → Prop} {s : TypeId} {x : Operand} {f k b off : Nat} (ho : o.op = .fieldAddr s x f) (hk : fldT P s f = some k) (hx : a.eval x = .pointer (some ⟨b, off, none⟩)) (h : Kc (a.put o.dst (.pointer (some ⟨b, off + k, none⟩))) w) : o.wp P a w Kc Q := by
  unfold Oper.wp execOp
  simp only [ho, hx, Sem.run_bind, Sem.run_pure, run_fieldAt s f k hk b off w, Result.andThen_ok]
  exact h
theorem Evl_field_x {ρ : Operand → AV} (s : TypeId) (x : Operand) (f k b off : Nat) (ho : o.op = .fieldAddr s x f) (hx : ρ x = .x (.pointer (some ⟨b, off, none⟩))) (hk : fldT P s f = some k) : Evl P o ρ H (.x (.pointer (some ⟨b, off + k, none⟩))) := by
  intro V a w Kc Q r hKc
  exact wp_field_of ho hk (r.evx (by simp [ho, Op.operands]) hx) (hKc _ _ (Below.refl _ _) ((by rw [Den])))
theorem Mem.drop {F : Nat → Prop} {w : World} {b off : Nat} {vals : List Value} (h : Mem F w (some ⟨b, off, none⟩) vals) (k : Nat) : Mem F w (some ⟨b, off + k, none⟩) (vals.drop k) := by
  rcases h with rfl | ⟨b', o', e, hb, hc⟩
  · exact .inl (by simp)
  · cases e
    exact .inr ⟨b, off + k, rfl, hb, fun j u hj => by rw [List.getElem?_drop] at hj; rw [Nat.add_assoc]; exact hc _ u hj⟩
theorem Mem.take {F : Nat → Prop} {w : World} {ad : Option Addr} {vals : List Value} (h : Mem F w ad vals) (k : Nat) : Mem F w ad (vals.take k) := by
  rcases h with rfl | ⟨b', o', e, hb, hc⟩
  · exact .inl (by simp)
  · exact .inr ⟨b', o', e, hb, fun j u hj => by
      rw [List.getElem?_take] at hj
      split at hj
      · exact hc _ u hj
      · cases hj⟩
theorem Evl_field_at {ρ : Operand → AV} (s : TypeId) (x : Operand) (f k : Nat) (cells : List AV) (ho : o.op = .fieldAddr s x f) (hx : ρ x = .at_ cells) (hk : fldT P s f = some k) : Evl P o ρ H (.at_ (cells.drop k)) := by
  intro V a w Kc Q r hKc
  have hd := r.ops x (by simp [ho, Op.operands, Call.operands])
  rw [hx, Den] at hd
  obtain ⟨b, off, vals, hv, hm, hl⟩ := hd
  exact wp_field_of ho hk hv (hKc _ _ (Below.refl _ _) ((by rw [Den]; exact ⟨b, off + k, vals.drop k, rfl, hm.drop k, hl.drop k⟩)))
/-- A check against nil that says no. -/
theorem Evl_nil {ρ : Operand → AV} (x : Operand) (ho : o.op = .nilCheck x) (hx : (∃ ad, ρ x = .x (.pointer (some ad))) ∨ ∃ cells, ρ x = .at_ cells) : Evl P o ρ H (ρ x) := by
  intro V a w Kc Q r hKc
  have hv : ∃ ad, a.eval x = .pointer (some ad) := by
    rcases hx with ⟨ad, hx⟩ | ⟨cells, hx⟩
    · exact ⟨ad, r.evx (by simp [ho, Op.operands]) hx⟩
    · have hd := r.ops x (by simp [ho, Op.operands, Call.operands])
      rw [hx, Den] at hd
      obtain ⟨b, off, vals, hv, _⟩ := hd
      exact ⟨_, hv⟩
  obtain ⟨ad, hv⟩ := hv
  have hd := r.ops x (by simp [ho, Op.operands, Call.operands])
  unfold Oper.wp execOp
  rw [hv] at hd
  simp only [ho, hv, Sem.run_pure, Oper.upon]
  exact hKc _ _ (Below.refl _ _) (hd)
theorem run_indexAt (t e : TypeId) (size : Nat) (ht : elT P t = some (e, size)) (b off n cap : Nat) (k : IntKind) (i : Int) (h0 : 0 ≤ i) (h1 : i < n) (w : World) :
    (Instr.indexAt t (.slice (some ⟨b, off, none⟩) n cap) (.int k i)).run P w = .ok (.pointer (some ⟨b, off + i.toNat * size, none⟩)) w := by
  unfold elT at ht
  split at ht
  · rename_i e' hu
    cases hi : P.info? e' with
    | none => simp [hi] at ht
    | some j =>
      simp [hi] at ht
      obtain ⟨rfl, rfl⟩ := ht
      simp [Instr.indexAt, asIntOf, run_underlying hu, sizeOf, typeInfo, hi, h0, h1, add_none]
  · cases ht
theorem wp_index_of {Kc : Act → World → Prop} {Q : Exit → Act → World → Prop} {t e : TypeId} {x y : Operand} {size b off n cap : Nat} {k : IntKind} {i : Int} (ho : o.op = .indexAddr t x y) (ht : elT P t = some (e, size)) (hx : a.eval x = .slice (some ⟨b, off, none⟩) n cap) (hy : a.eval y = .int k i) (h0 : 0 ≤ i) (h1 : i < n)
    (h : Kc (a.put o.dst (.pointer (some ⟨b, off + i.toNat * size, none⟩))) w) : o.wp P a w Kc Q := by
  unfold Oper.wp execOp
  simp only [ho, hx, hy, Sem.run_bind, Sem.run_pure, run_indexAt t e size ht b off n cap k i h0 h1 w, Result.andThen_ok]
  exact h
/-- The address of an element, in memory that nobody writes. -/
theorem Evl_index_sq {ρ : Operand → AV} (t e : TypeId) (x y : Operand) (size n : Nat) (k : IntKind) (i : Int) (j : Nat) (cells : List AV) (ho : o.op = .indexAddr t x y) (hx : ρ x = .sq n cells) (hy : ρ y = .x (.int k i)) (ht : elT P t = some (e, size)) (hi : i = (j : Int)) (h1 : j < n) (hc : 0 < cells.length) : Evl P o ρ H (.at_ (cells.drop (j * size))) := by
  subst hi
  intro V a w Kc Q r hKc
  have hd := r.ops x (by simp [ho, Op.operands, Call.operands])
  rw [hx, Den] at hd
  obtain ⟨ad, cap, vals, hv, h2, h3, h4, hm, hl⟩ := hd
  have hm' := hm
  rcases hm with rfl | ⟨b, off, rfl, hb, hcl⟩
  · have := hl.len; simp at this; omega
  · exact wp_index_of ho ht hv (r.evx (by simp [ho, Op.operands]) hy) (by omega) (by omega) (hKc _ _ (Below.refl _ _) ((by rw [Den]; exact ⟨b, _, vals.drop (j * size), rfl, by have := hm'.drop (j * size); simpa using this, hl.drop _⟩)))
/-- The address of an element of a row of the call's own. -/
theorem Stp_index_row (p : Nat) (t e e2 : TypeId) (x y : Operand) (size size2 n cap : Nat) (k : IntKind) (i : Int) (j : Nat) (ad : Option Addr) (cells : List AV) (ho : o.op = .indexAddr t x y) (hx : ev T x = .x (.slice ad n cap)) (hp : H[p]? = some (.row ad n cap e2 size2 cells)) (hy : ev T y = .x (.int k i)) (ht : elT P t = some (e, size)) (hi : i = (j : Int)) (h1 : j < n)
    (hK : ∀ b, ad = some ⟨b, 0, none⟩ → K (putT T o.dst (.x (.pointer (some ⟨b, j * size, none⟩)))) H) : Stp P o T H K := by
  subst hi
  intro V O w0 a w Kc Q r hKc
  obtain ⟨vals, hd, hown, _⟩ := r.hp p _ hp
  rcases hown.2 with ⟨e, hn⟩ | ⟨g, cap', cur, e, _⟩
  · omega
  · simp only [Value.slice.injEq] at e
    obtain ⟨rfl, _, rfl⟩ := e
    exact wp_index_of (off := 0) ho ht (r.evx hx) (r.evx hy) (by omega) (by omega) (by
      have := hKc _ _ _ w (hK g rfl) (r.put _ (by rw [Den]))
      simpa using this)
/-- The length of a slice. -/
theorem under_of_elT {t e : TypeId} {size : Nat} (ht : elT P t = some (e, size)) : P.underlying t = some (.slice e) := by
  unfold elT at ht
  split at ht
  · rename_i e' hu
    cases hi : P.info? e' with
    | none => simp [hi] at ht
    | some j => simp [hi] at ht; obtain ⟨rfl, rfl⟩ := ht; exact hu
  · cases ht
theorem Evl_len {ρ : Operand → AV} (x : Operand) (t e : TypeId) (size n : Nat) (cells : List AV) (ht : elT P t = some (e, size)) (ho : o.op = .call { callee := .builtin .len, args := #[x], argTypes := #[t] }) (hx : ρ x = .sq n cells) : Evl P o ρ H (.x (.int .i64 n)) := by
  intro V a w Kc Q r hKc
  have hd := r.ops x (by simp [ho, Op.operands, Call.operands])
  rw [hx, Den] at hd
  obtain ⟨ad, cap, vals, hv, h2⟩ := hd
  unfold Oper.wp execOp
  have hrun : (Builtin.len_ #[t] o.type #[a.eval x]).run P w = .ok (.int .i64 n) w := by rw [hv]; simp [Builtin.len_, goInt, run_underlying (under_of_elT ht)]
  simp only [ho, resolve, invoke, builtin, Sem.run_bind, Sem.run_pure, Result.andThen_ok, List.map_toArray, List.map_cons, List.map_nil, hrun, Oper.upon]
  exact hKc _ _ (Below.refl _ _) ((by rw [Den]))
theorem run_sliceAt (t e : TypeId) (size : Nat) (ht : elT P t = some (e, size)) (ad : Option Addr) (n cap : Nat) (lo hi : Option Value) (l h : Nat) (hlo : (lo = none ∧ l = 0) ∨ ∃ k, lo = some (.int k l)) (hhi : (hi = none ∧ h = n) ∨ ∃ k, hi = some (.int k h)) (h1 : l ≤ h) (h2 : h ≤ cap) (w : World) :
    (Instr.sliceAt t (.slice ad n cap) lo hi none).run P w = .ok (.slice (if cap = l then ad else ad.map (·.add (l * size))) (h - l) (cap - l)) w := by
  unfold elT at ht
  split at ht
  · rename_i e' hu
    cases hi' : P.info? e' with
    | none => simp [hi'] at ht
    | some j =>
      simp [hi'] at ht
      obtain ⟨rfl, rfl⟩ := ht
      rcases hlo with ⟨rfl, rfl⟩ | ⟨k, rfl⟩ <;> rcases hhi with ⟨rfl, rfl⟩ | ⟨k', rfl⟩ <;>
        simp [Instr.sliceAt, run_underlying hu, Instr.slice, Instr.sliceBounds, Instr.sliceBound, asIntOf, sizeOf, typeInfo, hi', h1, h2]
  · cases ht
/-- A byte of a string. -/
theorem Evl_index_str {ρ : Operand → AV} (t : TypeId) (x y : Operand) (k : IntKind) (i : Int) (j : Nat) (l : List UInt8) (ho : o.op = .index t x y) (hx : ρ x = .x (.string (bs l))) (hy : ρ y = .x (.int k i)) (ht : P.underlying t = some .string) (hi : i = (j : Int)) (h1 : j < l.length) : Evl P o ρ H (.x (.int .u8 (l.getD j 0).toNat)) := by
  subst hi
  intro V a w Kc Q r hKc
  unfold Oper.wp execOp
  have hg : (bs l)[j]? = some l[j] := by rw [getElem?_pos (bs l) j (by simpa using h1)]; simp
  have hrun : (Instr.index t (.string (bs l)) (.int k (j : Int))).run P w = .ok (.int .u8 (l.getD j 0).toNat) w := by simp [Instr.index, asIntOf, run_underlying ht, hg, h1, List.getD]
  simp only [ho, r.evx (by simp [ho, Op.operands]) hx, r.evx (by simp [ho, Op.operands]) hy, hrun, Sem.run_bind, Sem.run_pure, Result.andThen_ok, Oper.upon]
  exact hKc _ _ (Below.refl _ _) ((by rw [Den]))
/-- A part of a string. -/
theorem Evl_slice_str {ρ : Operand → AV} (t : TypeId) (x : Operand) (lo hi : Option Operand) (l h : Nat) (s : List UInt8) (ho : o.op = .slice t x lo hi none) (hx : ρ x = .x (.string (bs s))) (ht : P.underlying t = some .string)
    (hlo : (lo = none ∧ l = 0) ∨ ∃ y k, lo = some y ∧ ρ y = .x (.int k l)) (hhi : (hi = none ∧ h = s.length) ∨ ∃ y k, hi = some y ∧ ρ y = .x (.int k h)) (h1 : l ≤ h) (h2 : h ≤ s.length) : Evl P o ρ H (.x (.string (bs ((s.take h).drop l)))) := by
  intro V a w Kc Q r hKc
  have he : (bs s).extract l h = bs ((s.take h).drop l) := by
    apply ByteArray.ext; apply Array.toList_inj.1
    simp [bs, ByteArray.data_extract, List.extract_eq_take_drop, List.drop_take]
  have hrun : (Instr.sliceAt t (.string (bs s)) (lo.map a.eval) (hi.map a.eval) none).run P w = .ok (.string (bs ((s.take h).drop l))) w := by
    rw [← he]
    rcases hlo with ⟨rfl, rfl⟩ | ⟨y, k, rfl, hy⟩ <;> rcases hhi with ⟨rfl, rfl⟩ | ⟨z, k', rfl, hz⟩ <;>
      (try rw [Option.map_some, r.evx (by simp [ho, Op.operands]) hy]) <;> (try rw [Option.map_some, r.evx (by simp [ho, Op.operands]) hz]) <;>
      simp [Instr.sliceAt, run_underlying ht, Instr.slice, Instr.sliceBounds, Instr.sliceBound, asIntOf, h1, h2]
  unfold Oper.wp execOp
  simp only [ho, r.evx (by simp [ho, Op.operands]) hx, Option.map_none, hrun, Sem.run_bind, Sem.run_pure, Result.andThen_ok, Oper.upon]
  exact hKc _ _ (Below.refl _ _) ((by rw [Den]))
/-- A part of a slice, in memory that nobody writes. -/
theorem Evl_slice_sq {ρ : Operand → AV} (t e : TypeId) (x : Operand) (lo hi : Option Operand) (size n l h : Nat) (cells : List AV) (ho : o.op = .slice t x lo hi none) (hx : ρ x = .sq n cells) (ht : elT P t = some (e, size))
    (hlo : (lo = none ∧ l = 0) ∨ ∃ y k, lo = some y ∧ ρ y = .x (.int k l)) (hhi : (hi = none ∧ h = n) ∨ ∃ y k, hi = some y ∧ ρ y = .x (.int k h)) (h1 : l ≤ h) (h2 : h ≤ n) : Evl P o ρ H (.sq (h - l) ((cells.drop (l * size)).take ((h - l) * size))) := by
  intro V a w Kc Q r hKc
  have hd := r.ops x (by simp [ho, Op.operands, Call.operands])
  rw [hx, Den] at hd
  obtain ⟨ad, cap, vals, hv, h3, h4, h5, hm, hl⟩ := hd
  have hrun := run_sliceAt (P := P) t e size ht ad n cap (lo.map a.eval) (hi.map a.eval) l h (by
    rcases hlo with ⟨rfl, rfl⟩ | ⟨y, k, rfl, hy⟩
    · exact .inl ⟨rfl, rfl⟩
    · exact .inr ⟨k, by rw [Option.map_some, r.evx (by simp [ho, Op.operands]) hy]⟩) (by
    rcases hhi with ⟨rfl, rfl⟩ | ⟨y, k, rfl, hy⟩
    · exact .inl ⟨rfl, rfl⟩
    · exact .inr ⟨k, by rw [Option.map_some, r.evx (by simp [ho, Op.operands]) hy]⟩) h1 (by omega) w
  unfold Oper.wp execOp
  simp only [ho, hv, Option.map_none, hrun, Sem.run_bind, Sem.run_pure, Result.andThen_ok, Oper.upon]
  refine hKc _ _ (Below.refl _ _) ?_
  rw [Den]
  refine ⟨_, _, (vals.drop (l * size)).take ((h - l) * size), rfl, by omega, by omega, ?_, ?_, (hl.drop _).take _⟩
  · intro he
    split at he
    · omega
    · cases ad with
      | none => have := h5 rfl; omega
      | some y => simp at he
  · rcases hm with rfl | ⟨b, off, rfl, hb, hc⟩
    · exact .inl (by simp)
    · split
      · rename_i hcl
        refine .inl ?_
        have : h - l = 0 := by omega
        simp [this]
      · simp only [Option.map_some, add_none]
        exact (Mem.drop (.inr ⟨b, off, rfl, hb, hc⟩) _).take _
/-- A nil row can always be laid beside. -/
theorem awp_nilrow {c : Code} {Q : Post} (e : TypeId) (size : Nat) (h : awp P c Q T (.row none 0 0 e size [] :: H)) : awp P c Q T H := fun V O w0 a w r =>
  h V O w0 a w (Rel.new r (Below.refl _ _) _ (fun k hk => by cases hk) ⟨[], by rw [DenL], World.ownsRow_nil _ _ _ _, by simp⟩)
theorem awpL_nilrow {ops : Array Oper} {rest : List Oper} {Q : Post} (e : TypeId) (size : Nat) (h : awpL P ops Q rest T (.row none 0 0 e size [] :: H)) : awpL P ops Q rest T H := fun V O w0 a w r =>
  h V O w0 a w (Rel.new r (Below.refl _ _) _ (fun k hk => by cases hk) ⟨[], by rw [DenL], World.ownsRow_nil _ _ _ _, by simp⟩)

/-! ### append -/

/-- Where 'append' lays its row: where it was, or in a block of its own. -/
theorem append_where (w : World) (t ty e : TypeId) (z : Value) (size bytes : Nat) (hE : ElemAt P t e z size bytes) (ad : Option Addr) (n cap0 : Nat) (xs : List Value) (hown : w.ownsRow 0 e size (.slice ad n cap0) n xs)
    (u : Value) (m : Nat) (news : List Value) (ad2 : Option Addr) (cap2 : Nat) (hu : u = .slice ad2 m cap2) (hn2 : m ≤ cap2) (h02 : ad2 = none → cap2 = 0) (hl : news.length = m * size) (h1 : ∀ u ∈ news, u.oneCell' = true)
    (hnews : ∀ x, ad2 = some x → ∀ j u, news[j]? = some u → w.cell? (x.add j) = some u) (hf : Fits (n + m) bytes) :
    ∃ ad' cap' w', (Builtin.append_ #[t, t] ty #[.slice ad n cap0, u]).run P w = .ok (.slice ad' (n + m) cap') w' ∧ w'.ownsRow 0 e size (.slice ad' (n + m) cap') (n + m) (xs ++ news) ∧ w.grownBy w' (Value.slice ad n cap0).ownBlock ∧ ∀ x, ad' = some x → ad = some x ∨ x.block = w.heap.size := by
  obtain ⟨i, hi, hz, hsize, hby⟩ := info_parts hE.info
  subst hu
  cases ad2 with
  | none =>
    have hc := h02 rfl
    subst hc
    have hm : m = 0 := by omega
    subst hm
    have : news = [] := List.eq_nil_of_length_eq_zero (by simpa using hl)
    subst this
    have hrun := run_append_owned_none (P := P) (w := w) 0 t ty e i size hE.under hi (.slice ad n cap0) n xs hown
    exact ⟨ad, cap0, w, hrun, by rw [List.append_nil]; exact hown, World.grownBy.refl _ _, fun x hx => .inl hx⟩
  | some a =>
    have hnews := hnews a rfl
    obtain ⟨v', w', hrun, g1, g2, g3⟩ := run_append_own (P := P) (w := w) 0 t ty e i z size bytes hE.under hi hz hsize hby hE.zs hE.pos (.slice ad n cap0) n xs hown a m cap2 news hl hnews h1 hf.2 hf.1 (Nat.zero_le _)
    obtain ⟨ad', cap', rfl, _⟩ := (Sl.own g1).shape
    refine ⟨ad', cap', w', hrun, g1, g2, fun x hx => ?_⟩
    subst hx
    have hF := hf
    unfold Fits at hF
    have hsm : n + m ≤ 9223372036854775807 := by have := hF.2; unfold maxLen at this; omega
    rcases hown.2 with ⟨e1, rfl⟩ | ⟨g, cap1, cur, e1, hbg, hg, hnc, hcm, hcs, htake⟩
    · cases e1
      by_cases hm : m = 0
      · have := g3.2 ⟨rfl, hm⟩; cases this
      · have hr := run_append_nil (P := P) (w := w) t ty e i z hE.under hi hz a m cap2 news (by rw [hl, hsize]) hnews (by omega) (by omega) (by rw [hby]; have := hF.1; rw [Nat.zero_add] at this; omega)
        rw [hr] at hrun
        simp only [Result.ok.injEq, Value.slice.injEq, Option.some.injEq] at hrun
        exact .inr (by rw [← hrun.1.1])
    · simp only [Value.slice.injEq] at e1
      obtain ⟨rfl, -, rfl⟩ := e1
      by_cases hroom : n + m ≤ cap0
      · have hr := run_append_room (P := P) (w := w) t ty e i hE.under hi g n cap0 cur hg a m cap2 news (by rw [hl, hsize]) hnews h1 hroom (by rw [hsize, hl, hcs, ← Nat.add_mul]; exact Nat.mul_le_mul_right _ hroom)
        rw [hr] at hrun
        simp only [Result.ok.injEq, Value.slice.injEq, Option.some.injEq] at hrun
        exact .inl (by rw [← hrun.1.1])
      · have hC := World.ownsRow.cells hown (g := g) rfl
        have hr := run_append_grow (P := P) (w := w) t ty e i z hE.under hi hz ⟨g, 0, none⟩ n cap0 xs (by rw [hsize]; exact hown.1) hC a m cap2 news (by rw [hl, hsize]) hnews (by omega) (by omega) (growslice_fits (by omega) (by rw [hby]; exact hF.1))
        rw [hr] at hrun
        simp only [Result.ok.injEq, Value.slice.injEq, Option.some.injEq] at hrun
        exact .inr (by rw [← hrun.1.1])
/-- What a slice value shows that reads as m elements. -/
def Src (ρ : Operand → AV) (H : List Hp) (x : Operand) (m : Nat) (news : List AV) : Prop :=
  ρ x = .sq m news ∨ (ρ x = .x (.slice none 0 0) ∧ m = 0 ∧ news = []) ∨ (∃ (q : Nat) (ad : Option Addr) (cap : Nat) (e : TypeId) (size : Nat), ρ x = .x (.slice ad m cap) ∧ H[q]? = some (.row ad m cap e size news)) ∨
    ∃ (q b off c : Nat) (cells : List AV), ρ x = .x (.slice (some ⟨b, off, none⟩) m c) ∧ H[q]? = some (.box b cells) ∧ m ≤ c ∧ c ≤ maxLen ∧ news = (cells.drop off).take m
theorem Src.sq {ρ : Operand → AV} {x : Operand} {m : Nat} {news : List AV} (h : ρ x = .sq m news) : Src ρ H x m news := .inl h
theorem Src.row {ρ : Operand → AV} {x : Operand} {m : Nat} {news : List AV} (q : Nat) {ad : Option Addr} {cap : Nat} {e : TypeId} {size : Nat} (h : ρ x = .x (.slice ad m cap)) (hq : H[q]? = some (.row ad m cap e size news)) : Src ρ H x m news := .inr (.inr (.inl ⟨q, ad, cap, e, size, h, hq⟩))
/-- A part of a box of one-cell elements. -/
theorem Src.part {ρ : Operand → AV} {H : List Hp} {x : Operand} (q : Nat) {b off c m : Nat} {cells news : List AV} (h : ρ x = .x (.slice (some ⟨b, off, none⟩) m c)) (hq : H[q]? = some (.box b cells)) (h1 : m ≤ c) (h2 : c ≤ maxLen) (h4 : news = (cells.drop off).take m) : Src ρ H x m news := .inr (.inr (.inr ⟨q, b, off, c, cells, h, hq, h1, h2, h4⟩))
theorem OK.src {ρ : Operand → AV} (r : OK V H ρ o a w) {x : Operand} (hx : x ∈ o.op.operands) {m : Nat} {news : List AV} (h : Src ρ H x m news) : ∃ ad cap vals, a.eval x = .slice ad m cap ∧ m ≤ cap ∧ cap ≤ maxLen ∧ (ad = none → cap = 0) ∧ DenL (FB V H) w news vals ∧ (∀ u ∈ vals, u.oneCell' = true) ∧
    (vals = [] ∨ ∃ b off, ad = some ⟨b, off, none⟩ ∧ ∀ j u, vals[j]? = some u → w.cell? ⟨b, off + j, none⟩ = some u) := by
  rcases h with h | ⟨h, rfl, rfl⟩ | ⟨q, ad, cap, e, size, h, hq⟩ | ⟨q, b, off, c, cells, h, hq, k1, k2, rfl⟩
  · have hd := r.ops x hx
    rw [h, Den] at hd
    obtain ⟨ad, cap, vals, hv, h3, h4, h5, hm, hl⟩ := hd
    rcases hm with rfl | ⟨b, off, rfl, hb, hc⟩
    · exact ⟨ad, cap, [], hv, h3, h4, h5, hl, by simp, .inl rfl⟩
    · refine ⟨_, cap, vals, hv, h3, h4, h5, hl, fun u hu => ?_, .inr ⟨b, off, rfl, fun j u hj => (hc j u hj).1⟩⟩
      obtain ⟨j, hj, rfl⟩ := List.getElem_of_mem hu
      exact (hc j _ (by simp [hj])).2
  · exact ⟨none, 0, [], r.evx hx h, Nat.le_refl _, Nat.zero_le _, fun _ => rfl, by rw [DenL], by simp, .inl rfl⟩
  · obtain ⟨vals, hd, hown, h1⟩ := r.hp q _ hq
    rcases hown.2 with ⟨e1, rfl⟩ | ⟨g, cap1, cur, e1, hbg, hg, hnc, hcm, hcs, htake⟩
    · cases e1
      have : vals = [] := List.eq_nil_of_length_eq_zero (by simpa using hown.1)
      subst this
      exact ⟨none, 0, [], r.evx hx h, Nat.le_refl _, Nat.zero_le _, fun _ => rfl, hd, by simp, .inl rfl⟩
    · simp only [Value.slice.injEq] at e1
      obtain ⟨rfl, -, rfl⟩ := e1
      refine ⟨_, cap, vals, r.evx hx h, hnc, hcm, fun h => (by cases h), hd, h1, .inr ⟨g, 0, rfl, fun j u hj => ?_⟩⟩
      have := hown.cells (g := g) rfl j u hj
      rwa [add_none] at this
  · obtain ⟨vals, hd, hl, hc⟩ := r.hp q _ hq
    have hone : ∀ u ∈ vals, u.oneCell' = true := fun u hu => by
      obtain ⟨j, hj, rfl⟩ := List.getElem_of_mem hu
      exact (hc j _ (by simp [hj])).2.1
    refine ⟨_, c, (vals.drop off).take m, r.evx hx h, k1, k2, fun h => (by cases h), (hd.drop off).take m, fun u hu => hone u (List.mem_of_mem_drop (List.mem_of_mem_take hu)), .inr ⟨b, off, rfl, fun j u hj => ?_⟩⟩
    rw [List.getElem?_take] at hj
    split at hj
    · rw [List.getElem?_drop] at hj
      exact (hc (off + j) u hj).1
    · cases hj
/-- 'append(s, x...)', s a row of the call's own. -/
theorem Stp_append (p : Nat) (s x : Operand) (t e : TypeId) (z : Value) (size bytes : Nat) (ad : Option Addr) (n cap m : Nat) (cells news : List AV) (ho : o.op = .call { callee := .builtin .append, args := #[s, x], argTypes := #[t, t] }) (hs : ev T s = .x (.slice ad n cap)) (hp : H[p]? = some (.row ad n cap e size cells))
    (hx : Src (ev T) H x m news) (hE : ElemAt P t e z size bytes) (hl : news.length = m * size) (hf : Fits (n + m) bytes)
    (hK : ∀ ad' cap', K (putT T o.dst (.x (.slice ad' (n + m) cap'))) (H.set p (.row ad' (n + m) cap' e size (cells ++ news)))) : Stp P o T H K := by
  intro V O w0 a w Kc Q r hKc
  obtain ⟨vals, hd, hown, h1⟩ := r.hp p _ hp
  obtain ⟨ad2, cap2, vals2, hv2, hn2, hc2, h02, hd2, h12, hm2⟩ := (r.oks o).src (by simp [ho, Op.operands, Call.operands]) hx
  obtain ⟨ad', cap', w', hrun, g1, g2, g3⟩ := append_where (P := P) w t o.type e z size bytes hE ad n cap vals hown (a.eval x) m vals2 ad2 cap2 hv2 hn2 h02 (by rw [hd2.len, hl]) h12 (fun y hy j u hj => by
    rcases hm2 with rfl | ⟨b, off, rfl, hc⟩
    · simp at hj
    · cases hy; rw [add_none]; exact hc j u hj) hf
  unfold Oper.wp execOp
  simp only [ho, resolve, invoke, builtin, Sem.run_bind, Sem.run_pure, Result.andThen_ok, List.map_toArray, List.map_cons, List.map_nil, r.evx hs, hrun, Oper.upon]
  have hob : (Value.slice ad n cap).ownBlock = ad.map (·.block) := by cases ad <;> rfl
  have hw : ∀ k, k < w.heap.size → (Hp.row ad n cap e size cells).blk ≠ some k → w'.heap[k]? = w.heap[k]? := fun k hk hn => g2.block k hk fun e => hn (by rw [hob] at e; exact e.symm)
  have hlt : ∀ k, (Hp.row ad' (n + m) cap' e size (cells ++ news)).blk = some k → k < w'.heap.size ∧ ((Hp.row ad n cap e size cells).blk = some k ∨ w.heap.size ≤ k) := by
    intro k hk
    refine ⟨(g1.lt k (by simp only [Hp.blk] at hk; cases ad' with | none => simp at hk | some y => simpa [Value.ownBlock] using hk)).2, ?_⟩
    cases ad' with
    | none => simp [Hp.blk] at hk
    | some y =>
      simp [Hp.blk] at hk
      subst hk
      rcases g3 y rfl with rfl | e
      · exact .inl rfl
      · exact .inr (by omega)
  refine hKc _ _ _ _ (hK ad' cap') (Rel.put (Rel.turnAt (y := .row ad' (n + m) cap' e size (cells ++ news)) r p hp g2.os g2.tape g2.output g2.size hw hlt ?_) _ (by rw [Den]))
  have hF : ∀ k, FB V (H.set p (.row ad' (n + m) cap' e size (cells ++ news))) k → FB V H k ∨ w.heap.size ≤ k := by
    intro k hk
    rcases hk with hk | ⟨y, hy, e⟩
    · exact .inl (.inl hk)
    · rcases List.mem_or_eq_of_mem_set hy with hy | rfl
      · exact .inl (.inr ⟨y, hy, e⟩)
      · rcases (hlt k e).2 with h | h
        · exact .inl (.inr ⟨_, List.mem_of_getElem? hp, h⟩)
        · exact .inr h
  have hw' : ∀ k, k < w.heap.size → ¬ FB V H k → w'.heap[k]? = w.heap[k]? := fun k hk hn => hw k hk fun e => hn (.inr ⟨_, List.mem_of_getElem? hp, e⟩)
  exact ⟨vals ++ vals2, (DenL.conv hF hw' _ _ hd).app (DenL.conv hF hw' _ _ hd2), g1, fun u hu => by
    rcases List.mem_append.1 hu with h | h
    · exact h1 u h
    · exact h12 u h⟩
end
end Go.Proofs.YtfaljkenmbbbaaaDoor
/- A walk over symbolic memory: what is forgotten, calls, and the frame of a function. No program in sight. -/
namespace Go.Proofs.YtfaljkenmbbbaaaDoor
open Go.RowKit
set_option linter.unusedSimpArgs false
set_option linter.unusedVariables false

/-! ### Forgetting -/

mutual
/-- What is known as av is known as av' too, where the rows D are written no more. -/
inductive Vw (D : List Hp) : AV → AV → Prop
  | refl (av : AV) : Vw D av av
  | top (av : AV) : Vw D av .top
  | row {ad : Option Addr} {n cap : Nat} {e : TypeId} {size : Nat} {cells cells' : List AV} : .row ad n cap e size cells ∈ D → VwL D cells cells' → Vw D (.x (.slice ad n cap)) (.sq n cells')
  | nil : Vw D (.x (.slice none 0 0)) (.sq 0 [])
  | box {b : Nat} {cells cells' : List AV} : .box b cells ∈ D → VwL D cells cells' → Vw D (.x (.pointer (some ⟨b, 0, none⟩))) (.at_ cells')
  | sq {n : Nat} {l l' : List AV} : VwL D l l' → Vw D (.sq n l) (.sq n l')
  | agg {l l' : List AV} : VwL D l l' → Vw D (.agg l) (.agg l')
  | aggx {l : List Value} {l' : List AV} : VwL D (l.map .x) l' → Vw D (.x (.agg l.toArray)) (.agg l')
  | xagg {l : List Value} : Vw D (.agg (l.map .x)) (.x (.agg l.toArray))
  | tup {l l' : List AV} : VwL D l l' → Vw D (.tup l) (.tup l')
  | tupx {l : List Value} {l' : List AV} : VwL D (l.map .x) l' → Vw D (.x (.tuple l.toArray)) (.tup l')
  | xtup {l : List Value} : Vw D (.tup (l.map .x)) (.x (.tuple l.toArray))
  | ifc {t : TypeId} {v v' : AV} : Vw D v v' → Vw D (.ifc t v) (.ifc t v')
inductive VwL (D : List Hp) : List AV → List AV → Prop
  | nil : VwL D [] []
  | cons {a a' : AV} {l l' : List AV} : Vw D a a' → VwL D l l' → VwL D (a :: l) (a' :: l')
end
theorem VwL.refl (D : List Hp) : ∀ l, VwL D l l
  | [] => .nil
  | a :: l => .cons (.refl a) (VwL.refl D l)
section
variable {F F' : Nat → Prop} {w : World} {D : List Hp}
mutual
theorem Vw.den (hF : ∀ k, F' k → F k) (hD : ∀ h ∈ D, HpOk F w h ∧ ∀ k, h.blk = some k → ¬ F' k) : ∀ {av av' : AV}, Vw D av av' → ∀ v, Den F w av v → Den F' w av' v
  | _, _, .refl av, v, h => h.weak hF
  | _, _, .top av, v, h => by rw [Den]; trivial
  | _, _, .row (ad := ad) (n := n) (cap := cap) hm hl, v, h => by
    have h : v = .slice ad n cap := by have := h; simp only [Den] at this; exact this
    subst h
    obtain ⟨⟨vals, hd, hown, h1⟩, hb⟩ := hD _ hm
    show Den F' w (.sq n _) _
    simp only [Den]
    rcases hown.2 with ⟨e1, rfl⟩ | ⟨g, cap1, cur, e1, hbg, hg, hnc, hcm, hcs, htake⟩
    · cases e1
      exact ⟨none, 0, vals, rfl, Nat.le_refl _, Nat.zero_le _, fun _ => rfl, .inl (List.eq_nil_of_length_eq_zero (by simpa using hown.1)), VwL.den hF hD hl _ hd⟩
    · simp only [Value.slice.injEq] at e1
      obtain ⟨rfl, -, rfl⟩ := e1
      refine ⟨_, _, vals, rfl, hnc, hcm, fun h => (by cases h), .inr ⟨g, 0, rfl, hb g rfl, fun j u hj => ⟨?_, h1 u (List.mem_of_getElem? hj)⟩⟩, VwL.den hF hD hl _ hd⟩
      have := hown.cells (g := g) rfl j u hj
      rwa [add_none] at this
  | _, _, .box (b := b) hm hl, v, h => by
    have h : v = .pointer (some ⟨b, 0, none⟩) := by have := h; simp only [Den] at this; exact this
    subst h
    obtain ⟨⟨vals, hd, hlt, hc⟩, hb⟩ := hD _ hm
    show Den F' w (.at_ _) _
    simp only [Den]
    exact ⟨b, 0, vals, rfl, .inr ⟨b, 0, rfl, hb b rfl, fun j u hj => by have := hc j u hj; rw [Nat.zero_add]; exact ⟨this.1, this.2.1⟩⟩, VwL.den hF hD hl _ hd⟩
  | _, _, .nil, v, h => by
    have h : v = .slice none 0 0 := by have := h; simp only [Den] at this; exact this
    subst h
    show Den F' w (.sq 0 []) _
    simp only [Den]
    exact ⟨none, 0, [], rfl, Nat.le_refl _, Nat.zero_le _, fun _ => rfl, .inl rfl, by rw [DenL]⟩
  | _, _, .sq hl, v, h => by
    rw [Den] at h ⊢
    obtain ⟨ad, cap, vals, h1, h2, h3, h4, h5, h6⟩ := h
    exact ⟨ad, cap, vals, h1, h2, h3, h4, h5.conv (fun k hk => .inl (hF k hk)) (fun _ _ _ => rfl), VwL.den hF hD hl _ h6⟩
  | _, _, .agg hl, v, h => by
    rw [Den] at h ⊢
    obtain ⟨vals, h1, h6⟩ := h
    exact ⟨vals, h1, VwL.den hF hD hl _ h6⟩
  | _, _, .aggx (l := l) hl, v, h => by
    rw [Den] at h; subst h
    rw [Den]
    exact ⟨l, rfl, VwL.den hF hD hl _ DenL.exact⟩
  | _, _, .xagg (l := l), v, h => by
    simp only [Den] at h
    obtain ⟨vals, h1, h6⟩ := h
    rw [h6.exact'] at h1
    simp only [Den]
    exact h1
  | _, _, .tup hl, v, h => by
    rw [Den] at h ⊢
    obtain ⟨vals, h1, h6⟩ := h
    exact ⟨vals, h1, VwL.den hF hD hl _ h6⟩
  | _, _, .tupx (l := l) hl, v, h => by
    rw [Den] at h; subst h
    rw [Den]
    exact ⟨l, rfl, VwL.den hF hD hl _ DenL.exact⟩
  | _, _, .xtup (l := l), v, h => by
    simp only [Den] at h
    obtain ⟨vals, h1, h6⟩ := h
    rw [h6.exact'] at h1
    simp only [Den]
    exact h1
  | _, _, .ifc hv, v, h => by
    rw [Den] at h ⊢
    obtain ⟨u, h1, h2⟩ := h
    exact ⟨u, h1, Vw.den hF hD hv _ h2⟩
theorem VwL.den (hF : ∀ k, F' k → F k) (hD : ∀ h ∈ D, HpOk F w h ∧ ∀ k, h.blk = some k → ¬ F' k) : ∀ {l l' : List AV}, VwL D l l' → ∀ vs, DenL F w l vs → DenL F' w l' vs
  | _, _, .nil, vs, h => by rw [DenL] at h ⊢; exact h
  | _, _, .cons h1 h2, vs, h => by
    rw [DenL] at h ⊢
    obtain ⟨u, us, e, g1, g2⟩ := h
    exact ⟨u, us, e, Vw.den hF hD h1 _ g1, VwL.den hF hD h2 _ g2⟩
end
/-- The same of a block of the call's own. -/
inductive VwH (D : List Hp) : Hp → Hp → Prop
  | box (b : Nat) {l l' : List AV} : VwL D l l' → VwH D (.box b l) (.box b l')
  | row (ad : Option Addr) (n cap : Nat) (e : TypeId) (size : Nat) {l l' : List AV} : VwL D l l' → VwH D (.row ad n cap e size l) (.row ad n cap e size l')
  | rowbox (g n cap : Nat) (e : TypeId) (l : List AV) : VwH D (.row (some ⟨g, 0, none⟩) n cap e 1 l) (.box g l)
theorem VwH.refl (D : List Hp) : ∀ h, VwH D h h
  | .box b l => .box b (VwL.refl D l)
  | .row .. => .row _ _ _ _ _ (VwL.refl D _)
theorem VwH.blk {D : List Hp} {h h' : Hp} (x : VwH D h h') : h'.blk = h.blk := by cases x <;> rfl
theorem VwH.ok (hF : ∀ k, F' k → F k) (hD : ∀ h ∈ D, HpOk F w h ∧ ∀ k, h.blk = some k → ¬ F' k) {h h' : Hp} (x : VwH D h h') (ho : HpOk F w h) : HpOk F' w h' := by
  cases x with
  | box b hl => obtain ⟨vals, h1, h2⟩ := ho; exact ⟨vals, hl.den hF hD _ h1, h2⟩
  | row ad n cap e size hl => obtain ⟨vals, h1, h2⟩ := ho; exact ⟨vals, hl.den hF hD _ h1, h2⟩
  | rowbox g n cap e l =>
    obtain ⟨vals, h1, hown, hone⟩ := ho
    rcases hown.2 with ⟨e1, _⟩ | ⟨g', cap1, cur, e1, hbg, hg, hnc, hcm, hcs, htake⟩
    · cases e1
    · have e2 := e1
      simp only [Value.slice.injEq, Option.some.injEq, Addr.mk.injEq] at e2
      obtain ⟨⟨rfl, -, -⟩, -, rfl⟩ := e2
      refine ⟨vals, h1.weak hF, (Array.getElem?_eq_some_iff.1 hg).1, fun j u hj => ⟨?_, hone u (List.mem_of_getElem? hj), ?_⟩⟩
      · have := hown.cells (g := g) rfl j u hj
        rwa [add_none, Nat.zero_add] at this
      · simp [World.frozen?, hg]
inductive VwHs (D : List Hp) : List Hp → List Hp → Prop
  | nil : VwHs D [] []
  | cons {a a' : Hp} {l l' : List Hp} : VwH D a a' → VwHs D l l' → VwHs D (a :: l) (a' :: l')
theorem VwHs.refl (D : List Hp) : ∀ l, VwHs D l l
  | [] => .nil
  | a :: l => .cons (.refl D a) (VwHs.refl D l)
theorem VwHs.mem {D H H' : List Hp} (h : VwHs D H H') : ∀ x ∈ H', ∃ y ∈ H, VwH D y x := by
  induction h with
  | nil => intro x hx; cases hx
  | cons h1 _ ih =>
    intro x hx
    rcases List.mem_cons.1 hx with rfl | hx
    · exact ⟨_, by simp, h1⟩
    · obtain ⟨y, hy, e⟩ := ih x hx; exact ⟨y, by simp [hy], e⟩
theorem VwHs.apart {D H H' : List Hp} (h : VwHs D H H') (ha : H.Pairwise Apart) : H'.Pairwise Apart := by
  induction h with
  | nil => exact .nil
  | cons h1 h2 ih =>
    obtain ⟨g1, g2⟩ := List.pairwise_cons.1 ha
    refine List.pairwise_cons.2 ⟨fun x hx k hk e => ?_, ih g2⟩
    obtain ⟨y, hy, hxy⟩ := h2.mem x hx
    exact g1 y hy k (h1.blk ▸ hk) (hxy.blk ▸ e)
end
section
variable {P : Program} {V O : Nat → Prop} {w0 w w' : World} {H H' D : List Hp} {T T' : List AV} {a : Act} {o : Oper} {K : List AV → List Hp → Prop}
/-- The rows D are written no more; the rest is known as H'. -/
theorem Rel.forget (r : Rel V O w0 H T a w) (R : List Hp) (hp : H.Perm (D ++ R)) (hH : VwHs D R H') (hT : VwL D T T') : Rel V O w0 H' T' a w := by
  have r' := r.perm hp
  have hap := List.pairwise_append.1 r'.hok.apart
  have hF : ∀ k, FB V H' k → FB V (D ++ R) k := fun k hk => hk.imp id fun ⟨x, hx, e⟩ => by
    obtain ⟨y, hy, hxy⟩ := hH.mem x hx
    exact ⟨y, by simp [hy], hxy.blk ▸ e⟩
  have hD : ∀ h ∈ D, HpOk (FB V (D ++ R)) w h ∧ ∀ k, h.blk = some k → ¬ FB V H' k := fun h hh => ⟨r'.hok.ok h (by simp [hh]), fun k hk hf => by
    rcases hf with hv | ⟨x, hx, e⟩
    · exact (r'.hok.lt h (by simp [hh]) k hk).2 hv
    · obtain ⟨y, hy, hxy⟩ := hH.mem x hx
      exact hap.2.2 h hh y hy k hk (hxy.blk ▸ e)⟩
  refine ⟨hT.den hF hD _ r'.tmps, ⟨fun x hx => ?_, hH.apart hap.2.1, fun x hx k hk => ?_⟩, r'.fr, fun x hx k hk => ?_, r'.defers, r'.vlt, r'.gl⟩
  · obtain ⟨y, hy, hxy⟩ := hH.mem x hx
    exact hxy.ok hF hD (r'.hok.ok y (by simp [hy]))
  · obtain ⟨y, hy, hxy⟩ := hH.mem x hx
    exact r'.hok.lt y (by simp [hy]) k (hxy.blk ▸ hk)
  · obtain ⟨y, hy, hxy⟩ := hH.mem x hx
    exact r'.own y (by simp [hy]) k (hxy.blk ▸ hk)
/-- What is known under other words, and less. -/
structure Weak (H : List Hp) (T : List AV) (H' : List Hp) (T' : List AV) : Prop where
  ex : ∃ D R, H.Perm (D ++ R) ∧ VwHs D R H' ∧ VwL D T T'
theorem Weak.mk' (D R : List Hp) (hp : H.Perm (D ++ R)) (hH : VwHs D R H') (hT : VwL D T T') : Weak H T H' T' := ⟨D, R, hp, hH, hT⟩
theorem Rel.weaken (r : Rel V O w0 H T a w) (h : Weak H T H' T') : Rel V O w0 H' T' a w := by
  obtain ⟨D, R, hp, hH, hT⟩ := h.ex
  exact r.forget R hp hH hT
theorem awp_weak {c : Code} {Q : Post} (h : Weak H T H' T') (hc : awp P c Q T' H') : awp P c Q T H := fun V O w0 a w r => hc V O w0 a w (r.weaken h)
theorem awpL_weak {ops : Array Oper} {rest : List Oper} {Q : Post} (h : Weak H T H' T') (hc : awpL P ops Q rest T' H') : awpL P ops Q rest T H := fun V O w0 a w r => hc V O w0 a w (r.weaken h)
/-- A post that bears to be forgotten under. -/
def Soft (Q : Post) : Post := fun e T H => ∃ T' H', Weak H T H' T' ∧ Q e T' H'
theorem awp_soft {c : Code} {Q : Post} (h : awp P c (Soft Q) T H) : awp P c Q T H := fun V O w0 a w r => wp_mono (h V O w0 a w r) fun e a w ⟨T, H, r, T', H', hw, q⟩ => ⟨T', H', r.weaken hw, q⟩
/-- A loop whose states are numbered by s. -/
theorem awp_loopS {S : Type} {c : Code} {Q : Post} (Tf : S → List AV) (Hf : S → List Hp) (Inv : S → Prop) (m : S → Nat) (s0 : S) (h0 : Weak H T (Hf s0) (Tf s0)) (hi : Inv s0)
    (round : ∀ s, Inv s → awp P c (thenA (fun T' H' => ∃ s', m s' < m s ∧ Inv s' ∧ Weak H' T' (Hf s') (Tf s')) Q) (Tf s) (Hf s)) : awp P (.loop c) Q T H := by
  intro V O w0 a w r
  have key : ∀ n s a w, m s = n → Inv s → Rel V O w0 (Hf s) (Tf s) a w → ∀ (b : Frame) (k : List Item) (cs : List Frame),
      ∃ e a' w', lift V O w0 Q e a' w' ∧ Arrives P (lone (b.at a (.code c :: .inLoop c :: k)) cs w) b k cs e a' w' := by
    intro n
    induction n using Nat.strongRecOn with
    | _ n ih =>
      intro s a w hn hI hr b k cs
      obtain ⟨e, a₁, w₁, ⟨T1, H1, r1, q1⟩, harr⟩ := round s hI V O w0 a w hr b (.inLoop c :: k) cs
      cases e with
      | normal =>
        obtain ⟨s', hlt, hI₁, hw⟩ := q1
        obtain ⟨e₂, a₂, w₂, hq₂, harr₂⟩ := ih (m s') (hn ▸ hlt) s' a₁ w₁ rfl hI₁ (r1.weaken hw) b k cs
        exact ⟨e₂, a₂, w₂, hq₂, .of_steps (Steps.trans harr (.one step_inLoop)) harr₂⟩
      | exit id => exact ⟨_, a₁, w₁, ⟨T1, H1, r1, q1⟩, .pass (x := .inLoop c) rfl (fun _ _ => .inl (by simp)) harr⟩
      | goto l => exact ⟨_, a₁, w₁, ⟨T1, H1, r1, q1⟩, .pass (x := .inLoop c) rfl (fun _ _ => .inl (by simp)) harr⟩
      | ret => exact ⟨_, a₁, w₁, ⟨T1, H1, r1, q1⟩, .pass (x := .inLoop c) rfl (fun _ _ => .inl (by simp)) harr⟩
      | panic ch => exact ⟨_, a₁, w₁, ⟨T1, H1, r1, q1⟩, .pass (x := .inLoop c) rfl (fun _ _ => .inl (by simp)) harr⟩
      | outgrown => exact ⟨_, a₁, w₁, ⟨T1, H1, r1, q1⟩, .pass (x := .inLoop c) rfl (fun _ _ => .inl (by simp)) harr⟩
  intro b k cs
  obtain ⟨e, a', w', hq, harr⟩ := key _ s0 a w rfl hi (r.weaken h0) b k cs
  exact ⟨e, a', w', hq, .of_steps (.one step_loop) harr⟩

/-! ### Functions -/

/-- What function f does, called with args in a state where the blocks H are the caller's to hand over: it returns r, and leaves H', of which Q holds; nothing else that was there turns. -/
def Spec (P : Program) (f : FuncId) (H : List Hp) (args : List AV) (Q : AV → List Hp → Prop) : Prop :=
  ∀ (V : Nat → Prop) (w : World) (vs : List Value), (∀ k, V k → k < w.heap.size) → HOk V w H → DenL (FB V H) w args vs → GL (blks H) w →
    Calls P f vs.toArray w fun e w' => ∃ r H' v, Q r H' ∧ e = .returned v ∧ Den (FB V H') w' r v ∧ HOk V w' H' ∧ Fr (blks H) w w' ∧ ∀ h ∈ H', ∀ k, h.blk = some k → blks H k ∨ w.heap.size ≤ k
theorem Spec.mono {f : FuncId} {args : List AV} {Q Q' : AV → List Hp → Prop} (h : Spec P f H args Q) (hq : ∀ r H', Q r H' → Q' r H') : Spec P f H args Q' := fun V w vs h1 h2 h3 h4 =>
  (h V w vs h1 h2 h3 h4).mono fun e w' ⟨r, H', v, q, rest⟩ => ⟨r, H', v, hq _ _ q, rest⟩
/-- A call of a function that one knows. -/
theorem wp_call_of {Kc : Act → World → Prop} {Q : Exit → Act → World → Prop} {c : Operand} {args : Array Operand} {tys : Array TypeId} {f : FuncId} {fn : Func} {fs cs vs : Array Value} (ho : o.op = .call { callee := .value c, args := args, argTypes := tys }) (hc : a.eval c = .func (.func f) fs cs)
    (hf : P.funcs[f]? = some fn) (hn : fn.name ≠ "runtime.NumGoroutine") (hb : fn.body.isSome = true) (hv : fs ++ args.map a.eval ++ cs = vs)
    (h : Calls P f vs w fun e w' => ∃ v, e = .returned v ∧ Kc (a.put o.dst v) w') : o.wp P a w Kc Q := by
  have hrun : (execOp a.eval o).run P w = .ok (.enter f vs) w := by
    cases hbb : fn.body with
    | none => rw [hbb] at hb; cases hb
    | some c => simp [execOp, ho, resolve, hc, Deferred.ofValue, invoke, callFunc, hf, hn, hbb, ← hv]
  unfold Oper.wp
  rw [hrun]
  simp only [Oper.upon]
  refine h.mono ?_
  rintro e w' ⟨v, rfl, hk⟩
  exact hk
theorem denL_map (r : Rel V O w0 H T a w) : ∀ l : List Operand, DenL (FB V H) w (l.map (ev T)) (l.map a.eval)
  | [] => by simp [DenL]
  | x :: l => by simp only [List.map_cons]; rw [DenL]; exact ⟨_, _, rfl, r.ev x, denL_map r l⟩
/-- A call of a function whose contract is known: with the blocks H1 of the state handed over, and the rows D lent (then the result lies in no memory). -/
theorem Stp_call {c : Operand} {args : Array Operand} {tys : Array TypeId} {fs cs : Array Value} (f : FuncId) (fn : Func) (H1 R : List Hp) (avs : List AV) (Q : AV → List Hp → Prop) (ho : o.op = .call { callee := .value c, args := args, argTypes := tys }) (hc : ev T c = .x (.func (.func f) fs cs))
    (hf : P.funcs[f]? = some fn) (hn : fn.name ≠ "runtime.NumGoroutine") (hb : fn.body.isSome = true) (hp : H.Perm (H1 ++ R)) (hargs : VwL [] (fs.toList.map .x ++ args.toList.map (ev T) ++ cs.toList.map .x) avs) (hS : Spec P f H1 avs Q)
    (hK : ∀ r H', Q r H' → K (putT T o.dst r) (H' ++ R)) : Stp P o T H K := by
  intro V O w0 a w Kc Qc r hKc
  have r1 := r.perm hp
  have hap := List.pairwise_append.1 r1.hok.apart
  have hVF : ∀ k, FB (FB V R) H1 k ↔ FB V (H1 ++ R) k := fun k => by
    simp only [FB, List.mem_append]
    constructor
    · rintro ((h | ⟨x, hx, e⟩) | ⟨x, hx, e⟩)
      · exact .inl h
      · exact .inr ⟨x, .inr hx, e⟩
      · exact .inr ⟨x, .inl hx, e⟩
    · rintro (h | ⟨x, hx | hx, e⟩)
      · exact .inl (.inl h)
      · exact .inr ⟨x, hx, e⟩
      · exact .inl (.inr ⟨x, hx, e⟩)
  have hV : ∀ k, FB V R k → k < w.heap.size := fun k hk => by
    rcases hk with hk | ⟨x, hx, e⟩
    · exact Nat.lt_of_lt_of_le (r.vlt k hk) r.fr.size
    · exact (r1.hok.lt x (by simp [hx]) k e).1
  have hH1 : HOk (FB V R) w H1 := ⟨fun x hx => (r1.hok.ok x (by simp [hx])).weak fun k hk => (hVF k).1 hk, hap.1, fun x hx k hk => ⟨(r1.hok.lt x (by simp [hx]) k hk).1, fun hv => by
    rcases hv with hv | ⟨y, hy, e⟩
    · exact (r1.hok.lt x (by simp [hx]) k hk).2 hv
    · exact hap.2.2 x hx y hy k hk e⟩⟩
  have hd : DenL (FB (FB V R) H1) w avs (fs.toList ++ args.toList.map a.eval ++ cs.toList) := hargs.den (fun k hk => (hVF k).1 hk) (fun h hh => by cases hh) _ ((DenL.exact.app (denL_map r1 args.toList)).app DenL.exact)
  refine wp_call_of ho (r.evx hc) hf hn hb (vs := (fs.toList ++ args.toList.map a.eval ++ cs.toList).toArray) (by apply Array.toList_inj.1; simp) ?_
  refine (hS (FB V R) w _ hV hH1 hd (r1.gb.mono fun k ⟨x, hx, e⟩ => ⟨x, by simp [hx], e⟩)).mono ?_
  rintro e w' ⟨res, H', v, hq, rfl, hdv, hok', hfr, hown⟩
  refine ⟨v, rfl, hKc _ _ _ _ (hK res H' hq) ?_⟩
  have hVF' : ∀ k, FB (FB V R) H' k ↔ FB V (H' ++ R) k := fun k => by
    simp only [FB, List.mem_append]
    constructor
    · rintro ((h | ⟨x, hx, e⟩) | ⟨x, hx, e⟩)
      · exact .inl h
      · exact .inr ⟨x, .inr hx, e⟩
      · exact .inr ⟨x, .inl hx, e⟩
    · rintro (h | ⟨x, hx | hx, e⟩)
      · exact .inl (.inl h)
      · exact .inr ⟨x, hx, e⟩
      · exact .inl (.inr ⟨x, hx, e⟩)
  have hF : ∀ k, FB V (H' ++ R) k → FB V (H1 ++ R) k ∨ w.heap.size ≤ k := fun k hk => by
    rcases (hVF' k).2 hk with hk | ⟨x, hx, e⟩
    · exact .inl ((hVF k).1 (.inl hk))
    · rcases hown x hx k e with ⟨y, hy, e'⟩ | h
      · exact .inl ((hVF k).1 (.inr ⟨y, hy, e'⟩))
      · exact .inr h
  have hw : ∀ k, k < w.heap.size → ¬ FB V (H1 ++ R) k → w'.heap[k]? = w.heap[k]? := fun k hk hn => hfr.block k hk fun ⟨y, hy, e⟩ => hn (.inr ⟨y, by simp [hy], e⟩)
  refine Rel.put (av := res) (v := v) ⟨DenL.conv hF hw _ _ r1.tmps, ⟨fun x hx => ?_, List.pairwise_append.2 ⟨hok'.apart, hap.2.1, fun x hx y hy k hk e => ?_⟩, fun x hx k hk => ?_⟩, ?_, fun x hx k hk => ?_, r.defers, r.vlt, r.gl⟩ _ (hdv.weak fun k hk => (hVF' k).2 hk)
  · rcases List.mem_append.1 hx with hx | hx
    · exact (hok'.ok x hx).weak fun k hk => (hVF' k).2 hk
    · exact (r1.hok.ok x (by simp [hx])).conv hF hw hfr.size fun k hk => hfr.block k (r1.hok.lt x (by simp [hx]) k hk).1 fun ⟨y, hy, e⟩ => hap.2.2 y hy x hx k e hk
  · exact (hok'.lt x hx k hk).2 (.inr ⟨y, hy, e⟩)
  · rcases List.mem_append.1 hx with hx | hx
    · exact ⟨(hok'.lt x hx k hk).1, fun hv => (hok'.lt x hx k hk).2 (.inl hv)⟩
    · exact ⟨Nat.lt_of_lt_of_le (r1.hok.lt x (by simp [hx]) k hk).1 hfr.size, (r1.hok.lt x (by simp [hx]) k hk).2⟩
  · refine r.fr.trans hfr fun k hk hb => ?_
    obtain ⟨y, hy, e⟩ := hb
    rcases r1.own y (by simp [hy]) k e with h | h
    · exact h
    · omega
  · rcases List.mem_append.1 hx with hx | hx
    · rcases hown x hx k hk with ⟨y, hy, e⟩ | h
      · exact r1.own y (by simp [hy]) k e
      · exact .inr (Nat.le_trans r.fr.size h)
    · exact r1.own x (by simp [hx]) k hk
end
end Go.Proofs.YtfaljkenmbbbaaaDoor
/- A walk over symbolic memory: how a function ends, calls that lend, calls of function values, regions that draw. No program in sight. -/
namespace Go.Proofs.YtfaljkenmbbbaaaDoor
open Go.RowKit
set_option linter.unusedSimpArgs false
set_option linter.unusedVariables false
section
variable {P : Program} {V O : Nat → Prop} {w0 w w' : World} {H H' D : List Hp} {T T' : List AV} {a : Act} {o : Oper} {K : List AV → List Hp → Prop}
/-- Forgetting, of a list of values. -/
theorem forgetL (hok : HOk V w H) {vs : List Value} (hd : DenL (FB V H) w T vs) (h : Weak H T H' T') : HOk V w H' ∧ DenL (FB V H') w T' vs ∧ ∀ x ∈ H', ∀ k, x.blk = some k → blks H k := by
  obtain ⟨D, R, hp, hH, hT⟩ := h.ex
  have hok1 : HOk V w (D ++ R) := ⟨fun x hx => (hok.ok x (hp.mem_iff.2 hx)).weak (FB.perm hp), hp.pairwise hok.apart (fun {a b} hab k hb ha => hab k ha hb), fun x hx => hok.lt x (hp.mem_iff.2 hx)⟩
  have hd1 := hd.weak (FB.perm (V := V) hp)
  have hap := List.pairwise_append.1 hok1.apart
  have hF : ∀ k, FB V H' k → FB V (D ++ R) k := fun k hk => hk.imp id fun ⟨x, hx, e⟩ => by
    obtain ⟨y, hy, hxy⟩ := hH.mem x hx
    exact ⟨y, by simp [hy], hxy.blk ▸ e⟩
  have hD : ∀ h ∈ D, HpOk (FB V (D ++ R)) w h ∧ ∀ k, h.blk = some k → ¬ FB V H' k := fun h hh => ⟨hok1.ok h (by simp [hh]), fun k hk hf => by
    rcases hf with hv | ⟨x, hx, e⟩
    · exact (hok1.lt h (by simp [hh]) k hk).2 hv
    · obtain ⟨y, hy, hxy⟩ := hH.mem x hx
      exact hap.2.2 h hh y hy k hk (hxy.blk ▸ e)⟩
  refine ⟨⟨fun x hx => ?_, hH.apart hap.2.1, fun x hx k hk => ?_⟩, hT.den hF hD _ hd1, fun x hx k hk => ?_⟩
  · obtain ⟨y, hy, hxy⟩ := hH.mem x hx
    exact hxy.ok hF hD (hok1.ok y (by simp [hy]))
  · obtain ⟨y, hy, hxy⟩ := hH.mem x hx
    exact hok1.lt y (by simp [hy]) k (hxy.blk ▸ hk)
  · obtain ⟨y, hy, hxy⟩ := hH.mem x hx
    exact ⟨y, hp.mem_iff.2 (by simp [hy]), hxy.blk ▸ hk⟩
/-- What a result is. -/
def RV (P : Program) (T : List AV) (H : List Hp) (rv : ResultVar) (av : AV) : Prop :=
  (∃ t, rv = .tmp t ∧ av = ev T (.tmp t)) ∨ ∃ t ty b cells agg n, ∃ i : Nat, rv = .cell t ty ∧ ev T (.tmp t) = .x (.pointer (some ⟨b, 0, none⟩)) ∧ H[i]? = some (.box b cells) ∧ aggT P ty = some (agg, n) ∧ n ≤ cells.length ∧ 0 < cells.length ∧ av = ldA agg n cells
theorem RV.tmp (t : Nat) : RV P T H (.tmp t) (ev T (.tmp t)) := .inl ⟨t, rfl, rfl⟩
theorem RV.cell (i : Nat) {t : Nat} {ty : TypeId} {b : Nat} {cells : List AV} {agg : Bool} {n : Nat} (h1 : ev T (.tmp t) = .x (.pointer (some ⟨b, 0, none⟩))) (h2 : H[i]? = some (.box b cells)) (h3 : aggT P ty = some (agg, n)) (h4 : n ≤ cells.length) (h5 : 0 < cells.length) : RV P T H (.cell t ty) (ldA agg n cells) :=
  .inr ⟨t, ty, b, cells, agg, n, i, rfl, h1, h2, h3, h4, h5, rfl⟩
/-- How a result is got. -/
def RR (P : Program) (a : Act) (w : World) (v : Value) : ResultVar → Prop
  | .tmp t => a.tmps.getD t undef = v
  | .cell p t => ∃ ad, a.tmps.getD p undef = .pointer (some ad) ∧ (loadVar t ad).run P w = .ok v w
theorem RV.run (r : Rel V O w0 H T a w) {rv : ResultVar} {av : AV} (h : RV P T H rv av) : ∃ v, RR P a w v rv ∧ Den (FB V H) w av v := by
  rcases h with ⟨t, rfl, rfl⟩ | ⟨t, ty, b, cells, agg, n, i, rfl, h1, h2, h3, h4, h5, rfl⟩
  · exact ⟨_, rfl, r.ev (.tmp t)⟩
  · obtain ⟨vals, hd, hl, hc⟩ := r.hp i _ h2
    obtain ⟨v, hr, hdv⟩ := run_loadVar_cells (P := P) ty agg n h3 w _ b 0 cells vals hd (fun j u hj => by simpa using (hc j u hj).1) h4 (fun _ => h5)
    exact ⟨v, ⟨_, r.evx h1, hr⟩, hdv⟩
/-- Function fn, in the state (T, H), returns r and leaves H'. -/
def Res (P : Program) (fn : Func) (T : List AV) (H : List Hp) (r : AV) (H' : List Hp) : Prop :=
  ∀ V O w0 a w, Rel V O w0 H T a w → ∃ v, (results fn a.tmps).run P w = .ok v w ∧ Den (FB V H') w r v ∧ HOk V w H' ∧ ∀ h ∈ H', ∀ k, h.blk = some k → blks H k
theorem Res1 {fn : Func} {x : ResultVar} {av r : AV} (hr : fn.results = #[x]) (h : RV P T H x av) (hw : Weak H [av] H' [r]) : Res P fn T H r H' := by
  intro V O w0 a w rel
  obtain ⟨v, h1, h2⟩ := h.run rel
  have hd : DenL (FB V H) w [av] [v] := by simp only [DenL]; exact ⟨v, [], rfl, h2, rfl⟩
  obtain ⟨g1, g2, g3⟩ := forgetL rel.hok hd hw
  refine ⟨v, ?_, by simp only [DenL] at g2; obtain ⟨u, us, e, hu, _⟩ := g2; cases e; exact hu, g1, g3⟩
  cases x with
  | tmp t => simp only [RR] at h1; simp at h1; simp [results, hr, h1]
  | cell p t => obtain ⟨ad, e1, e2⟩ := h1; simp at e1; simp [results, hr, e1, asAddr, e2]
theorem Res0 {fn : Func} (hr : fn.results = #[]) (hw : Weak H [] H' []) : Res P fn T H (.x (.tuple #[])) H' := by
  intro V O w0 a w rel
  obtain ⟨g1, g2, g3⟩ := forgetL (vs := []) rel.hok (by rw [DenL]) hw
  exact ⟨.tuple #[], by simp [results, hr], by simp [Den], g1, g3⟩
theorem Res2 {fn : Func} {x1 x2 : ResultVar} {a1 a2 : AV} {r1 r2 : AV} (hr : fn.results = #[x1, x2]) (h1 : RV P T H x1 a1) (h2 : RV P T H x2 a2) (hw : Weak H [a1, a2] H' [r1, r2]) : Res P fn T H (.tup [r1, r2]) H' := by
  intro V O w0 a w rel
  obtain ⟨v1, e1, d1⟩ := h1.run rel
  obtain ⟨v2, e2, d2⟩ := h2.run rel
  have hd : DenL (FB V H) w [a1, a2] [v1, v2] := by simp only [DenL]; exact ⟨_, _, rfl, d1, _, _, rfl, d2, rfl⟩
  obtain ⟨g1, g2, g3⟩ := forgetL rel.hok hd hw
  refine ⟨.tuple #[v1, v2], ?_, by rw [Den]; exact ⟨[v1, v2], rfl, g2⟩, g1, g3⟩
  cases x1 <;> cases x2
  · simp only [RR] at e1; simp at e1; simp only [RR] at e2; simp at e2; simp [results, hr, asAddr, e1, e2]
  · simp only [RR] at e1; simp at e1; obtain ⟨ad2, e2, f2⟩ := e2; simp at e2; simp [results, hr, asAddr, e1, e2, f2]
  · obtain ⟨ad1, e1, f1⟩ := e1; simp at e1; simp only [RR] at e2; simp at e2; simp [results, hr, asAddr, e1, f1, e2]
  · obtain ⟨ad1, e1, f1⟩ := e1; simp at e1; obtain ⟨ad2, e2, f2⟩ := e2; simp at e2; simp [results, hr, asAddr, e1, f1, e2, f2]
theorem Res3 {fn : Func} {x1 x2 x3 : ResultVar} {a1 a2 a3 : AV} {r1 r2 r3 : AV} (hr : fn.results = #[x1, x2, x3]) (h1 : RV P T H x1 a1) (h2 : RV P T H x2 a2) (h3 : RV P T H x3 a3) (hw : Weak H [a1, a2, a3] H' [r1, r2, r3]) : Res P fn T H (.tup [r1, r2, r3]) H' := by
  intro V O w0 a w rel
  obtain ⟨v1, e1, d1⟩ := h1.run rel
  obtain ⟨v2, e2, d2⟩ := h2.run rel
  obtain ⟨v3, e3, d3⟩ := h3.run rel
  have hd : DenL (FB V H) w [a1, a2, a3] [v1, v2, v3] := by simp only [DenL]; exact ⟨_, _, rfl, d1, _, _, rfl, d2, _, _, rfl, d3, rfl⟩
  obtain ⟨g1, g2, g3⟩ := forgetL rel.hok hd hw
  refine ⟨.tuple #[v1, v2, v3], ?_, by rw [Den]; exact ⟨[v1, v2, v3], rfl, g2⟩, g1, g3⟩
  cases x1 <;> cases x2 <;> cases x3
  · simp only [RR] at e1; simp at e1; simp only [RR] at e2; simp at e2; simp only [RR] at e3; simp at e3; simp [results, hr, asAddr, e1, e2, e3]
  · simp only [RR] at e1; simp at e1; simp only [RR] at e2; simp at e2; obtain ⟨ad3, e3, f3⟩ := e3; simp at e3; simp [results, hr, asAddr, e1, e2, e3, f3]
  · simp only [RR] at e1; simp at e1; obtain ⟨ad2, e2, f2⟩ := e2; simp at e2; simp only [RR] at e3; simp at e3; simp [results, hr, asAddr, e1, e2, f2, e3]
  · simp only [RR] at e1; simp at e1; obtain ⟨ad2, e2, f2⟩ := e2; simp at e2; obtain ⟨ad3, e3, f3⟩ := e3; simp at e3; simp [results, hr, asAddr, e1, e2, f2, e3, f3]
  · obtain ⟨ad1, e1, f1⟩ := e1; simp at e1; simp only [RR] at e2; simp at e2; simp only [RR] at e3; simp at e3; simp [results, hr, asAddr, e1, f1, e2, e3]
  · obtain ⟨ad1, e1, f1⟩ := e1; simp at e1; simp only [RR] at e2; simp at e2; obtain ⟨ad3, e3, f3⟩ := e3; simp at e3; simp [results, hr, asAddr, e1, f1, e2, e3, f3]
  · obtain ⟨ad1, e1, f1⟩ := e1; simp at e1; obtain ⟨ad2, e2, f2⟩ := e2; simp at e2; simp only [RR] at e3; simp at e3; simp [results, hr, asAddr, e1, f1, e2, f2, e3]
  · obtain ⟨ad1, e1, f1⟩ := e1; simp at e1; obtain ⟨ad2, e2, f2⟩ := e2; simp at e2; obtain ⟨ad3, e3, f3⟩ := e3; simp at e3; simp [results, hr, asAddr, e1, f1, e2, f2, e3, f3]
theorem Res4 {fn : Func} {x1 x2 x3 x4 : ResultVar} {a1 a2 a3 a4 : AV} {r1 r2 r3 r4 : AV} (hr : fn.results = #[x1, x2, x3, x4]) (h1 : RV P T H x1 a1) (h2 : RV P T H x2 a2) (h3 : RV P T H x3 a3) (h4 : RV P T H x4 a4) (hw : Weak H [a1, a2, a3, a4] H' [r1, r2, r3, r4]) : Res P fn T H (.tup [r1, r2, r3, r4]) H' := by
  intro V O w0 a w rel
  obtain ⟨v1, e1, d1⟩ := h1.run rel
  obtain ⟨v2, e2, d2⟩ := h2.run rel
  obtain ⟨v3, e3, d3⟩ := h3.run rel
  obtain ⟨v4, e4, d4⟩ := h4.run rel
  have hd : DenL (FB V H) w [a1, a2, a3, a4] [v1, v2, v3, v4] := by simp only [DenL]; exact ⟨_, _, rfl, d1, _, _, rfl, d2, _, _, rfl, d3, _, _, rfl, d4, rfl⟩
  obtain ⟨g1, g2, g3⟩ := forgetL rel.hok hd hw
  refine ⟨.tuple #[v1, v2, v3, v4], ?_, by rw [Den]; exact ⟨[v1, v2, v3, v4], rfl, g2⟩, g1, g3⟩
  cases x1 <;> cases x2 <;> cases x3 <;> cases x4
  · simp only [RR] at e1; simp at e1; simp only [RR] at e2; simp at e2; simp only [RR] at e3; simp at e3; simp only [RR] at e4; simp at e4; simp [results, hr, asAddr, e1, e2, e3, e4]
  · simp only [RR] at e1; simp at e1; simp only [RR] at e2; simp at e2; simp only [RR] at e3; simp at e3; obtain ⟨ad4, e4, f4⟩ := e4; simp at e4; simp [results, hr, asAddr, e1, e2, e3, e4, f4]
  · simp only [RR] at e1; simp at e1; simp only [RR] at e2; simp at e2; obtain ⟨ad3, e3, f3⟩ := e3; simp at e3; simp only [RR] at e4; simp at e4; simp [results, hr, asAddr, e1, e2, e3, f3, e4]
  · simp only [RR] at e1; simp at e1; simp only [RR] at e2; simp at e2; obtain ⟨ad3, e3, f3⟩ := e3; simp at e3; obtain ⟨ad4, e4, f4⟩ := e4; simp at e4; simp [results, hr, asAddr, e1, e2, e3, f3, e4, f4]
  · simp only [RR] at e1; simp at e1; obtain ⟨ad2, e2, f2⟩ := e2; simp at e2; simp only [RR] at e3; simp at e3; simp only [RR] at e4; simp at e4; simp [results, hr, asAddr, e1, e2, f2, e3, e4]
  · simp only [RR] at e1; simp at e1; obtain ⟨ad2, e2, f2⟩ := e2; simp at e2; simp only [RR] at e3; simp at e3; obtain ⟨ad4, e4, f4⟩ := e4; simp at e4; simp [results, hr, asAddr, e1, e2, f2, e3, e4, f4]
  · simp only [RR] at e1; simp at e1; obtain ⟨ad2, e2, f2⟩ := e2; simp at e2; obtain ⟨ad3, e3, f3⟩ := e3; simp at e3; simp only [RR] at e4; simp at e4; simp [results, hr, asAddr, e1, e2, f2, e3, f3, e4]
  · simp only [RR] at e1; simp at e1; obtain ⟨ad2, e2, f2⟩ := e2; simp at e2; obtain ⟨ad3, e3, f3⟩ := e3; simp at e3; obtain ⟨ad4, e4, f4⟩ := e4; simp at e4; simp [results, hr, asAddr, e1, e2, f2, e3, f3, e4, f4]
  · obtain ⟨ad1, e1, f1⟩ := e1; simp at e1; simp only [RR] at e2; simp at e2; simp only [RR] at e3; simp at e3; simp only [RR] at e4; simp at e4; simp [results, hr, asAddr, e1, f1, e2, e3, e4]
  · obtain ⟨ad1, e1, f1⟩ := e1; simp at e1; simp only [RR] at e2; simp at e2; simp only [RR] at e3; simp at e3; obtain ⟨ad4, e4, f4⟩ := e4; simp at e4; simp [results, hr, asAddr, e1, f1, e2, e3, e4, f4]
  · obtain ⟨ad1, e1, f1⟩ := e1; simp at e1; simp only [RR] at e2; simp at e2; obtain ⟨ad3, e3, f3⟩ := e3; simp at e3; simp only [RR] at e4; simp at e4; simp [results, hr, asAddr, e1, f1, e2, e3, f3, e4]
  · obtain ⟨ad1, e1, f1⟩ := e1; simp at e1; simp only [RR] at e2; simp at e2; obtain ⟨ad3, e3, f3⟩ := e3; simp at e3; obtain ⟨ad4, e4, f4⟩ := e4; simp at e4; simp [results, hr, asAddr, e1, f1, e2, e3, f3, e4, f4]
  · obtain ⟨ad1, e1, f1⟩ := e1; simp at e1; obtain ⟨ad2, e2, f2⟩ := e2; simp at e2; simp only [RR] at e3; simp at e3; simp only [RR] at e4; simp at e4; simp [results, hr, asAddr, e1, f1, e2, f2, e3, e4]
  · obtain ⟨ad1, e1, f1⟩ := e1; simp at e1; obtain ⟨ad2, e2, f2⟩ := e2; simp at e2; simp only [RR] at e3; simp at e3; obtain ⟨ad4, e4, f4⟩ := e4; simp at e4; simp [results, hr, asAddr, e1, f1, e2, f2, e3, e4, f4]
  · obtain ⟨ad1, e1, f1⟩ := e1; simp at e1; obtain ⟨ad2, e2, f2⟩ := e2; simp at e2; obtain ⟨ad3, e3, f3⟩ := e3; simp at e3; simp only [RR] at e4; simp at e4; simp [results, hr, asAddr, e1, f1, e2, f2, e3, f3, e4]
  · obtain ⟨ad1, e1, f1⟩ := e1; simp at e1; obtain ⟨ad2, e2, f2⟩ := e2; simp at e2; obtain ⟨ad3, e3, f3⟩ := e3; simp at e3; obtain ⟨ad4, e4, f4⟩ := e4; simp at e4; simp [results, hr, asAddr, e1, f1, e2, f2, e3, f3, e4, f4]
/-- The end of a function. -/
def endA (P : Program) (fn : Func) (Q : AV → List Hp → Prop) : Post := fun e T H => (e = .ret ∨ e = .normal) ∧ ∃ r H', Res P fn T H r H' ∧ Q r H'
theorem endA_ret {fn : Func} {Q : AV → List Hp → Prop} (r : AV) (H' : List Hp) (h : Res P fn T H r H') (q : Q r H') : endA P fn Q .ret T H := ⟨.inl rfl, r, H', h, q⟩
theorem endA_normal {fn : Func} {Q : AV → List Hp → Prop} (r : AV) (H' : List Hp) (h : Res P fn T H r H') (q : Q r H') : endA P fn Q .normal T H := ⟨.inr rfl, r, H', h, q⟩
theorem Spec_of {f : FuncId} {fn : Func} {c : Code} {args : List AV} {Q : AV → List Hp → Prop} (hf : P.funcs[f]? = some fn) (hb : fn.body = some c)
    (h : awp P c (endA P fn Q) (args ++ List.replicate (fn.ntmps - args.length) .top) H) : Spec P f H args Q := by
  intro V w vs hV hH hd hgl
  have hlen := hd.len
  refine calls_of_wp hf hb ?_
  have r : Rel V (blks H) w H (args ++ List.replicate (fn.ntmps - args.length) .top) { tmps := vs.toArray ++ Array.replicate (fn.ntmps - vs.toArray.size) undef, defers := [] } w := by
    refine ⟨?_, hH, Fr.refl _ _, fun x hx k hk => .inl ⟨x, hx, hk⟩, rfl, hV, hgl⟩
    simp only [Array.toList_append, Array.toList_replicate, List.size_toArray, hlen]
    refine hd.app (DenL.of (by simp) fun j av u h1 h2 => ?_)
    rw [List.getElem?_replicate] at h1
    split at h1
    · cases h1; rw [Den]; trivial
    · cases h1
  refine wp_mono (h V (blks H) w _ w r) ?_
  rintro e a' w' ⟨T', H1, r1, he, res, H', hres, hq⟩
  obtain ⟨v, g1, g2, g3, g4⟩ := hres V (blks H) w a' w' r1
  have hend : ∃ r H' v, Q r H' ∧ Ending.returned v = .returned v ∧ Den (FB V H') w' r v ∧ HOk V w' H' ∧ Fr (blks H) w w' ∧ ∀ h ∈ H', ∀ k, h.blk = some k → blks H k ∨ w.heap.size ≤ k :=
    ⟨res, H', v, hq, rfl, g2, g3, r1.fr, fun x hx k hk => by obtain ⟨y, hy, e⟩ := g4 x hx k hk; exact r1.own y hy k e⟩
  rcases he with rfl | rfl
  · refine ⟨r1.defers, v, g1, res, H', v, hq, rfl, g2, g3, r1.fr, fun x hx k hk => by obtain ⟨y, hy, e⟩ := g4 x hx k hk; exact r1.own y hy k e⟩
  · refine ⟨r1.defers, v, g1, res, H', v, hq, rfl, g2, g3, r1.fr, fun x hx k hk => by obtain ⟨y, hy, e⟩ := g4 x hx k hk; exact r1.own y hy k e⟩
/-- A contract of the elder kind, with values that are known whole. -/
theorem Spec_callsG {f : FuncId} {args : List Value} {v : Value} (h : ∀ w, Gw w → Calls P f args.toArray w fun e w' => e = .returned v ∧ Ext w w') (H : List Hp) : Spec P f H (args.map .x) fun r H' => r = .x v ∧ H' = H := by
  intro V w vs hV hH hd hgl
  rw [hd.exact']
  refine (h w hgl.2).mono ?_
  rintro e w' ⟨rfl, hE⟩
  refine ⟨.x v, H, v, ⟨rfl, rfl⟩, rfl, by rw [Den], ⟨fun x hx => (hH.ok x hx).conv (fun k hk => .inl hk) (fun k hk _ => hE.block k hk) hE.size (fun k hk => hE.block k (hH.lt x hx k hk).1), hH.apart, fun x hx k hk => ⟨Nat.lt_of_lt_of_le (hH.lt x hx k hk).1 hE.size, (hH.lt x hx k hk).2⟩⟩, hE.fr _, fun x hx k hk => .inl ⟨x, hx, hk⟩⟩
theorem Spec_calls {f : FuncId} {args : List Value} {v : Value} (h : ∀ w, Calls P f args.toArray w fun e w' => e = .returned v ∧ Ext w w') (H : List Hp) : Spec P f H (args.map .x) fun r H' => r = .x v ∧ H' = H := Spec_callsG (fun w _ => h w) H
/-- A contract that speaks of no block holds beside whatever blocks. -/
theorem Spec.frame {f : FuncId} {args : List AV} {Q : AV → List Hp → Prop} (h : Spec P f H args Q) (R : List Hp) : Spec P f (H ++ R) args fun r H' => ∃ H1, Q r H1 ∧ H' = H1 ++ R := by
  intro V w vs hV hH hd hgl
  have hap := List.pairwise_append.1 hH.apart
  have hVF : ∀ H1 k, FB (FB V R) H1 k ↔ FB V (H1 ++ R) k := fun H1 k => by
    simp only [FB, List.mem_append]
    constructor
    · rintro ((h | ⟨x, hx, e⟩) | ⟨x, hx, e⟩)
      · exact .inl h
      · exact .inr ⟨x, .inr hx, e⟩
      · exact .inr ⟨x, .inl hx, e⟩
    · rintro (h | ⟨x, hx | hx, e⟩)
      · exact .inl (.inl h)
      · exact .inr ⟨x, hx, e⟩
      · exact .inl (.inr ⟨x, hx, e⟩)
  refine (h (FB V R) w vs (fun k hk => ?_) ⟨fun x hx => (hH.ok x (by simp [hx])).weak fun k hk => (hVF H k).1 hk, hap.1, fun x hx k hk => ⟨(hH.lt x (by simp [hx]) k hk).1, fun hv => ?_⟩⟩ (hd.weak fun k hk => (hVF H k).1 hk) (hgl.mono fun k ⟨x, hx, e⟩ => ⟨x, by simp [hx], e⟩)).mono ?_
  · rcases hk with hk | ⟨x, hx, e⟩
    · exact hV k hk
    · exact (hH.lt x (by simp [hx]) k e).1
  · rcases hv with hv | ⟨y, hy, e⟩
    · exact (hH.lt x (by simp [hx]) k hk).2 hv
    · exact hap.2.2 x hx y hy k hk e
  · rintro e w' ⟨r, H1, v, hq, rfl, hdv, hok, hfr, hown⟩
    have hF : ∀ k, FB V (H1 ++ R) k → FB V (H ++ R) k ∨ w.heap.size ≤ k := fun k hk => by
      rcases (hVF H1 k).2 hk with hk | ⟨x, hx, e⟩
      · exact .inl ((hVF H k).1 (.inl hk))
      · rcases hown x hx k e with ⟨y, hy, e'⟩ | h
        · exact .inl ((hVF H k).1 (.inr ⟨y, hy, e'⟩))
        · exact .inr h
    have hw : ∀ k, k < w.heap.size → ¬ FB V (H ++ R) k → w'.heap[k]? = w.heap[k]? := fun k hk hn => hfr.block k hk fun ⟨y, hy, e⟩ => hn (.inr ⟨y, by simp [hy], e⟩)
    refine ⟨r, H1 ++ R, v, ⟨H1, hq, rfl⟩, rfl, hdv.weak fun k hk => (hVF H1 k).2 hk, ⟨fun x hx => ?_, List.pairwise_append.2 ⟨hok.apart, hap.2.1, fun x hx y hy k hk e => (hok.lt x hx k hk).2 (.inr ⟨y, hy, e⟩)⟩, fun x hx k hk => ?_⟩, ?_, fun x hx k hk => ?_⟩
    · rcases List.mem_append.1 hx with hx | hx
      · exact (hok.ok x hx).weak fun k hk => (hVF H1 k).2 hk
      · exact (hH.ok x (by simp [hx])).conv hF hw hfr.size fun k hk => hfr.block k (hH.lt x (by simp [hx]) k hk).1 fun ⟨y, hy, e⟩ => hap.2.2 y hy x hx k e hk
    · rcases List.mem_append.1 hx with hx | hx
      · exact ⟨(hok.lt x hx k hk).1, fun hv => (hok.lt x hx k hk).2 (.inl hv)⟩
      · exact ⟨Nat.lt_of_lt_of_le (hH.lt x (by simp [hx]) k hk).1 hfr.size, (hH.lt x (by simp [hx]) k hk).2⟩
    · exact ⟨hfr.os, hfr.tape, hfr.output, hfr.size, fun k hk hn => hfr.block k hk fun ⟨y, hy, e⟩ => hn ⟨y, by simp [hy], e⟩⟩
    · rcases List.mem_append.1 hx with hx | hx
      · rcases hown x hx k hk with ⟨y, hy, e⟩ | h
        · exact .inl ⟨y, by simp [hy], e⟩
        · exact .inr h
      · exact .inl ⟨x, by simp [hx], hk⟩
end
end Go.Proofs.YtfaljkenmbbbaaaDoor
