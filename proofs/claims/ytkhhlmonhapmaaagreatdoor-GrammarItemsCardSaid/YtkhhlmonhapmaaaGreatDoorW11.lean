import Derived.Test.YtkhhlmonhapmaaaGreatDoorW10
import Derived.Test.YtkhhlmonhapmaaaGreatDoorW9
/- A walk over symbolic memory: new rows that nobody writes later, quiet. No program in sight. -/
namespace Go.Proofs.YtkhhlmonhapmaaaGreatDoor
open Go.RowKit
set_option linter.unusedSimpArgs false
set_option linter.unusedVariables false
section
variable {P : Program} {H : List Hp} {o : Oper} {ρ : Operand → AV}
theorem Evl_rowsq (t e : TypeId) (len : Nat) (parts : Array (Nat × Operand)) (z : Value) (size bytes : Nat) (cells : List AV) (ho : o.op = .buildSlice t len parts) (hE : ElemAt P t e z size bytes)
    (hone : (parts.toList.all fun p => (ρ p.2).cells.all AV.one) = true) (hz1 : z.cells.toList.all (·.oneCell') = true) (hlen : len * size ≤ 16777216)
    (hb : bldA (fun i => some (i * size, size)) ((List.replicate len (z.cells.toList.map .x)).flatten) (parts.toList.map fun p => (p.1, ρ p.2)) = some cells) : Evl P o ρ H (.sq len cells) := by
  intro V a w Kc Q r hKc
  obtain ⟨i, hi, hz, hsize, hby⟩ := info_parts hE.info
  have hpos := hE.pos
  have hzs := hE.zs
  -- the zeros
  have hz2 : z.cells.toList.length = size := by rw [Array.length_toList]; exact hzs
  have hzeros : ((Array.range (len * size)).map (z.cells[· % z.cells.size]!)).toList = (List.replicate len z.cells.toList).flatten := by
    apply List.ext_getElem?
    intro j
    simp only [Array.toList_map, Array.toList_range, List.getElem?_map]
    by_cases hj : j < len * size
    · rw [List.getElem?_range hj]
      have hmod : j % size < size := Nat.mod_lt _ hpos
      have key : ∀ (n : Nat) (j : Nat), j < n * size → ((List.replicate n z.cells.toList).flatten)[j]? = z.cells.toList[j % size]? := by
        intro n
        induction n with
        | zero => intro j h; simp at h
        | succ n ih =>
          intro j h
          rw [List.replicate_succ, List.flatten_cons]
          by_cases h1 : j < size
          · rw [List.getElem?_append_left (by simp; omega), Nat.mod_eq_of_lt h1]
          · rw [List.getElem?_append_right (by simp; omega), Array.length_toList, hzs, ih (j - size) (by rw [Nat.succ_mul] at h; omega), Nat.mod_eq_sub_mod (Nat.le_of_not_lt h1)]
      rw [key len j hj]
      simp [hzs, getElem!_pos, hmod]
    · rw [List.getElem?_eq_none (by simpa using hj), List.getElem?_eq_none (by simp [hzs]; omega)]; rfl
  obtain ⟨vr, hf, hd⟩ := bldA_den (F := FB V H) (w := w) _ _ _ ((Array.range (len * size)).map (z.cells[· % z.cells.size]!)) cells hb (by
    rw [hzeros]
    have : (List.replicate len (z.cells.toList.map AV.x)).flatten = ((List.replicate len z.cells.toList).flatten).map AV.x := by
      rw [List.map_flatten, List.map_replicate]
    rw [this]; exact DenL.exact) (parts_den parts (fun p hp => by simp [ho, Op.operands]; exact ⟨p.1, by simpa using hp⟩) r (fun p hp => List.all_eq_true.1 hone p (by simpa using hp)))
  have hrun : (execOp a.eval o).run P w = .ok (.value (.slice (some ⟨w.heap.size, 0, none⟩) len len)) (w.alloc (.cells vr e)) := by
    have h24 : ¬ (len * i.size > 16777216) := by rw [hsize]; omega
    by_cases h0 : len * i.size = 0
    · have hf' : Instr.fill (fun j => some (j * i.size, i.size)) #[] (parts.map fun (i, x) => (i, a.eval x)).toList = some vr := by
        rw [hsize] at h0 ⊢; rw [← hf, h0]; simp [Array.range]
      have hl0 : len = 0 := by
        rw [hsize] at h0
        rcases Nat.mul_eq_zero.1 h0 with h | h
        · exact h
        · omega
      subst hl0
      have hf2 : Instr.fill (fun j => some (j * i.size, i.size)) #[] (List.map (fun x => (x.1, a.eval x.2)) parts.toList) = some vr := by rw [← hf', Array.toList_map]
      simp [execOp, ho, Instr.buildSlice, run_underlying hE.under, sizeOf, typeInfo, hi, newRow, show Array.range 0 = #[] from rfl, hf2]
    · have hf' : Instr.fill (fun j => some (j * i.size, i.size)) (Array.map (fun x => z.cells[x % z.cells.size]!) (Array.range (len * i.size))) (parts.map fun (i, x) => (i, a.eval x)).toList = some vr := by
        rw [hsize]; exact hf
      simp [execOp, ho, Instr.buildSlice, run_underlying hE.under, sizeOf, typeInfo, hi, h0, h24, zeroValue, hz, newRow] at hf' ⊢
      simp [hf']
  have hvlen : vr.size = len * size := by
    have h1 := hd.len
    have : ∀ (ps : List (Nat × AV)) (cs r : List AV), bldA (fun i => some (i * size, size)) cs ps = some r → r.length = cs.length := by
      intro ps
      induction ps with
      | nil => intro cs r h; simp only [bldA] at h; cases h; rfl
      | cons p ps ih =>
        intro cs r h
        obtain ⟨i, v⟩ := p
        simp only [bldA] at h
        split at h
        · cases h
        · rename_i hn
          rw [ih _ _ h]
          simp [spl]; omega
    have h2 := this _ _ _ hb
    rw [Array.length_toList] at h1
    rw [h1, h2]; simp [hzs]
  unfold Oper.wp
  rw [hrun]
  have hE' : Ext w (w.alloc (.cells vr e)) := Ext.al _ _
  have hones : cells.all AV.one = true := by
    have : ∀ (ps : List (Nat × AV)) (cs r : List AV), (ps.all fun p => p.2.cells.all AV.one) = true → cs.all AV.one = true → bldA (fun i => some (i * size, size)) cs ps = some r → r.all AV.one = true := by
      intro ps
      induction ps with
      | nil => intro cs r _ hc h; simp only [bldA] at h; cases h; exact hc
      | cons p ps ih =>
        intro cs r hp hc h
        obtain ⟨i, v⟩ := p
        simp only [bldA] at h
        simp only [List.all_cons, Bool.and_eq_true] at hp
        split at h
        · cases h
        · refine ih _ _ hp.2 ?_ h
          simp only [spl, List.all_append, Bool.and_eq_true]
          exact ⟨⟨List.all_eq_true.2 fun x hx => List.all_eq_true.1 hc x (List.mem_of_mem_take hx), hp.1⟩, List.all_eq_true.2 fun x hx => List.all_eq_true.1 hc x (List.mem_of_mem_drop hx)⟩
    refine this _ _ _ ?_ ?_ hb
    · rw [List.all_map]; exact hone
    · rw [List.all_eq_true]
      intro x hx
      obtain ⟨l, hl, hx⟩ := List.mem_flatten.1 hx
      rw [List.eq_of_mem_replicate hl] at hx
      obtain ⟨v, hv, rfl⟩ := List.mem_map.1 hx
      exact List.all_eq_true.1 hz1 v hv
  have hF : ∀ k, FB V H k → k < w.heap.size := fun k hk => by
    rcases hk with hk | ⟨x, hx, e⟩
    · exact r.vlt k hk
    · exact (r.hok.lt x hx k e).1
  refine hKc _ _ hE' ?_
  rw [Den]
  refine ⟨_, _, vr.toList, rfl, Nat.le_refl _, by unfold maxLen; have : len ≤ len * size := Nat.le_mul_of_pos_right _ hpos; omega, fun h => (by cases h), .inr ⟨_, _, rfl, fun hk => by have := hF _ hk; omega, fun j u hj => ⟨?_, hd.one hones u (List.mem_of_getElem? hj)⟩⟩, DenL.conv (fun k hk => .inl hk) (fun k hk _ => hE'.block k hk) _ _ hd⟩
  rw [Nat.zero_add, World.cell?_alloc_new]; simpa using hj
end
end Go.Proofs.YtkhhlmonhapmaaaGreatDoor
/- A walk over symbolic memory: rows given element by element. No program in sight. -/
namespace Go.Proofs.YtkhhlmonhapmaaaGreatDoor
open Go.RowKit
set_option linter.unusedSimpArgs false
set_option linter.unusedVariables false
section
variable {P : Program} {H : List Hp} {o : Oper} {ρ : Operand → AV} {T : List AV} {K : List AV → List Hp → Prop}
theorem bldA_seq : ∀ (l : List (Nat × AV)) (done zs : List AV), l.map (·.1) = List.range' done.length l.length → zs.length = l.length → (l.all fun p => p.2.one) = true → bldA (fun i => some (i * 1, 1)) (done ++ zs) l = some (done ++ l.map (·.2))
  | [], done, zs, _, hz, _ => by
    have : zs = [] := List.eq_nil_of_length_eq_zero (by simpa using hz)
    subst this; rfl
  | (i, v) :: l, done, zs, hi, hz, h1 => by
    simp only [List.map_cons, List.length_cons, List.range'_succ, List.cons.injEq] at hi
    obtain ⟨rfl, hi⟩ := hi
    simp only [List.all_cons, Bool.and_eq_true] at h1
    cases zs with
    | nil => simp at hz
    | cons z zs =>
      have hc := one_cells' h1.1
      rw [bldA]
      simp only [hc, List.length_cons, List.length_nil, Nat.mul_one]
      rw [if_neg (by simp), spl_one _ _ _ (by simp)]
      have : (done ++ z :: zs).set done.length v = (done ++ [v]) ++ zs := by
        rw [List.set_append_right _ _ (Nat.le_refl _)]; simp
      rw [this]
      have := bldA_seq l (done ++ [v]) zs (by rw [hi]; simp) (by simpa using hz) h1.2
      simp only [Nat.mul_one] at this ⊢
      rw [this]; simp
theorem bldA_all {len : Nat} {z : Value} {parts : List (Nat × Operand)} (hz : z.cells.toList.length = 1) (hi : parts.map (·.1) = List.range len) (h1 : (parts.all fun p => (ρ p.2).one) = true) : bldA (fun i => some (i * 1, 1)) ((List.replicate len (z.cells.toList.map .x)).flatten) (parts.map fun p => (p.1, ρ p.2)) = some (parts.map fun p => ρ p.2) := by
  have hlen : parts.length = len := by have := congrArg List.length hi; simpa using this
  have := bldA_seq (parts.map fun p => (p.1, ρ p.2)) [] ((List.replicate len (z.cells.toList.map .x)).flatten) (by
    rw [List.map_map]
    rw [List.length_map, hlen, List.length_nil, ← List.range_eq_range']
    exact hi) (by
    rw [List.length_map, hlen]
    clear hi h1 hlen
    induction len with
    | zero => rfl
    | succ n ih => rw [List.replicate_succ, List.flatten_cons, List.length_append, ih, List.length_map, hz]; omega) (by rw [List.all_map]; exact h1)
  rw [List.nil_append] at this
  rw [this, List.map_map]; rfl
theorem one_all {parts : List (Nat × Operand)} (h1 : (parts.all fun p => (ρ p.2).one) = true) : (parts.all fun p => (ρ p.2).cells.all AV.one) = true := by
  rw [List.all_eq_true] at h1 ⊢
  intro p hp
  have := h1 p hp
  rw [one_cells' this]; simp [this]
theorem Evl_rowall (t e : TypeId) (len : Nat) (parts : Array (Nat × Operand)) (z : Value) (bytes : Nat) (ho : o.op = .buildSlice t len parts) (hE : ElemAt P t e z 1 bytes)
    (hi : parts.toList.map (·.1) = List.range len) (h1 : (parts.toList.all fun p => (ρ p.2).one) = true) (hz1 : z.cells.toList.all (·.oneCell') = true) (hz : z.cells.toList.length = 1) (hlen : len ≤ 16777216) : Evl P o ρ H (.sq len (parts.toList.map fun p => ρ p.2)) :=
  Evl_rowsq t e len parts z 1 bytes _ ho hE (one_all h1) hz1 (by omega) (bldA_all hz hi h1)
end
end Go.Proofs.YtkhhlmonhapmaaaGreatDoor
/- A walk over symbolic memory: the end of a region walked in one order. No program in sight. -/
namespace Go.Proofs.YtkhhlmonhapmaaaGreatDoor
open Go.RowKit
set_option linter.unusedSimpArgs false
set_option linter.unusedVariables false
end Go.Proofs.YtkhhlmonhapmaaaGreatDoor
/- A walk over symbolic memory: a string's bytes appended to a row of bytes. No program in sight. -/
namespace Go.Proofs.YtkhhlmonhapmaaaGreatDoor
open Go.RowKit Go.Lib
set_option linter.unusedSimpArgs false
set_option linter.unusedVariables false
section
variable {P : Program} {o : Oper} {H : List Hp} {T : List AV} {K : List AV → List Hp → Prop}
end
end Go.Proofs.YtkhhlmonhapmaaaGreatDoor
/- A walk over symbolic memory: in a region that draws its order, loads out of memory that is not the call's own may be taken first, whatever writes own memory. No program in sight. -/
namespace Go.Proofs.YtkhhlmonhapmaaaGreatDoor
open Go.RowKit
set_option linter.unusedSimpArgs false
set_option linter.unusedVariables false
section
variable {P : Program} {Δ : List Deferred} {V O : Nat → Prop} {w0 w w' : World} {B H H' R : List Hp} {T T' : List AV} {a a' : Act} {o : Oper} {ops : Array Oper} {Q : Post} {listed : Array Bool} {fuel : Nat}
def SameF (wr : World) (R : List Hp) (w : World) : Prop := ∀ k, k < wr.heap.size → ¬ blks R k → w.heap[k]? = wr.heap[k]?
def awpF (P : Program) (ops : Array Oper) (Q : Post) (fuel : Nat) (listed : Array Bool) (T : List AV) (H : List Hp) : Prop :=
  ∀ Δ V O w0 a w, Rel Δ V O w0 H T a w → wpAnyP P .any ops (lift Δ V O w0 Q) [] (SameF w H) fuel listed a w
def awpG (P : Program) (ops : Array Oper) (Q : Post) (R : List Hp) (fuel : Nat) (listed : Array Bool) (T : List AV) (H : List Hp) : Prop :=
  ∀ Δ V O w0 wr a w, Rel Δ V O w0 H T a w → SameF wr R w → wr.heap.size ≤ w.heap.size → (∀ h ∈ H, ∀ k, h.blk = some k → blks R k ∨ wr.heap.size ≤ k) → wpAnyP P .any ops (lift Δ V O w0 Q) [] (SameF wr R) fuel listed a w
theorem awpF_drawn {id : Nat} {l : List Oper} (hm : P.follows .mixedOrders = true) (h : awpF P l.toArray Q l.length (Array.replicate l.length false) T H) : awp P (.region id l.toArray true) Q T H :=
  awp_drawnA hm fun Δ V O w0 a w r => (h Δ V O w0 a w r).any
theorem awpF_cong {T' : List AV} {H' : List Hp} (hT : T = T') (hH : H = H') (h : awpF P ops Q fuel listed T' H') : awpF P ops Q fuel listed T H := hT ▸ hH ▸ h
theorem awpG_cong {T' : List AV} {H' : List Hp} (hT : T = T') (hH : H = H') (h : awpG P ops Q R fuel listed T' H') : awpG P ops Q R fuel listed T H := hT ▸ hH ▸ h
theorem awpF_yield (i : Nat) {o : Oper} {l : List Oper} (hi : nthO l i = some o) (hg : o.guard = none) (hc : takeOk l.toArray listed i = true) (hpan : ∀ c T H, ¬ Q (.panic c) T H) (av : AV)
    (h : ∀ V a w, OK V H (ev T) o a w → ∃ v, (∀ w', SameF w H w' → (execOp a.eval o).run P w' = .ok (.value v) w') ∧ Den (FB V H) w av v) (hK : awpF P l.toArray Q fuel (listed.setIfInBounds i true) (putT T o.dst av) H) : awpF P l.toArray Q (fuel + 1) listed T H := by
  have hi : l.toArray[i]? = some o := by rw [List.getElem?_toArray, ← nthO_eq]; exact hi
  intro Δ V O w0 a w r
  obtain ⟨v, hv, hd⟩ := h V a w (r.oks o)
  unfold takeOk at hc
  simp only [Bool.and_eq_true] at hc
  exact wpAnyP.first hi hc.1.1 (fun c a w ⟨T, H, _, hq⟩ => absurd hq (hpan c T H)) (fun j o hj => by simp at hj) (Region.free_spec hi hc.1.2) (by simpa using hc.2) (.inl ⟨by simp [Region.wanted, hg], hv⟩) (fun _ _ _ => rfl) (hK Δ V O w0 _ w (r.put _ hd))
theorem awpF_take (i : Nat) {o : Oper} {l : List Oper} (hi : nthO l i = some o) (hg : o.guard = none) (hc : takeOk l.toArray listed i = true) (hpan : ∀ c T H, ¬ Q (.panic c) T H) (av : AV) (h : WInd P o (ev T) H av) (hK : awpF P l.toArray Q fuel (listed.setIfInBounds i true) (putT T o.dst av) H) : awpF P l.toArray Q (fuel + 1) listed T H :=
  awpF_yield i hi hg hc hpan av (fun V a w ok => by obtain ⟨v, hv, hd⟩ := h V a w ok; exact ⟨v, fun w' _ => hv w', hd⟩) hK
theorem awpF_go {l : List Oper} (h : awpG P l.toArray Q H fuel listed T H) : awpF P l.toArray Q fuel listed T H := fun Δ V O w0 a w r =>
  h Δ V O w0 w a w r (fun _ _ _ => rfl) (Nat.le_refl _) fun x hx k hk => .inl ⟨x, hx, hk⟩
theorem awpG_done (hr : Region.ready .any ops listed = []) (h : Q .normal T H) : awpG P ops Q R fuel listed T H := fun Δ V O w0 wr a w r _ _ _ => by
  cases fuel with
  | zero => exact ⟨hr, ⟨T, H, r, h⟩⟩
  | succ n => exact ⟨fun _ => ⟨T, H, r, h⟩, fun j hj => by rw [hr] at hj; cases hj⟩
theorem wpOp_of_stpG {j : Nat} (hi : ops[j]? = some o) (hg : o.guard = none) (h : Stp P o T H (awpG P ops Q R fuel (listed.setIfInBounds j true))) (Δ : List Deferred) (V O : Nat → Prop) (w0 wr : World) (r : Rel Δ V O w0 H T a w) (hS : SameF wr R w) (hz : wr.heap.size ≤ w.heap.size) (hown : ∀ h ∈ H, ∀ k, h.blk = some k → blks R k ∨ wr.heap.size ≤ k) :
    wpOp P ops (lift Δ V O w0 Q) j (fun a' w' => (([] : List Nat).contains j = false → SameF wr R w → SameF wr R w') ∧ wpAnyP P .any ops (lift Δ V O w0 Q) [] (SameF wr R) fuel (listed.setIfInBounds j true) a' w') a w := by
  unfold wpOp
  simp only [hi]
  rw [if_pos (by simp [Region.wanted, hg])]
  have r0 : Rel Δ V O w0 ([] ++ H) T a w := r
  refine .inl (h _ _ _ _ a w _ _ r0.aside fun T' H' a' w' hk hr => ?_)
  obtain ⟨r', _⟩ := r0.rejoin hr
  have hS' : SameF wr R w' := fun k hk hn => by
    refine (hr.fr.block k (Nat.lt_of_lt_of_le hk hz) fun ⟨y, hy, e⟩ => ?_).trans (hS k hk hn)
    rcases hown y hy k e with h1 | h1
    · exact hn h1
    · omega
  refine ⟨fun _ _ => hS', hk Δ V O w0 wr a' w' r' hS' (Nat.le_trans hz hr.fr.size) fun x hx k e => ?_⟩
  rcases hr.own x hx k e with ⟨y, hy, e'⟩ | h1
  · exact hown y hy k e'
  · exact .inr (Nat.le_trans hz h1)
theorem awpG_1 (i : Nat) {o : Oper} {l : List Oper} (hr : Region.ready .any l.toArray listed = [i]) (hi : nthO l i = some o) (hg : o.guard = none) (h : Stp P o T H (awpG P l.toArray Q R fuel (listed.setIfInBounds i true))) : awpG P l.toArray Q R (fuel + 1) listed T H := fun Δ V O w0 wr a w r hS hz hown =>
  ⟨fun h0 => (by rw [hr] at h0; cases h0), fun j hj => by
    rw [hr, List.mem_singleton] at hj; subst hj
    exact wpOp_of_stpG (by rw [List.getElem?_toArray, ← nthO_eq]; exact hi) hg h Δ V O w0 wr r hS hz hown⟩
end
end Go.Proofs.YtkhhlmonhapmaaaGreatDoor
/- Rows of ints, of strings. -/
namespace Go.Proofs.YtkhhlmonhapmaaaGreatDoor
open Go.RowKit
set_option linter.unusedSimpArgs false
set_option linter.unusedVariables false
theorem take_snoc' {α : Type} (l : List α) (k : Nat) (h : k < l.length) : l.take (k + 1) = l.take k ++ [l[k]] := by
  rw [List.take_succ_eq_append_getElem h]
def sa (l : List (List UInt8)) : List AV := l.map fun s => .x (.string (bs s))
@[simp] theorem sa_len (l : List (List UInt8)) : (sa l).length = l.length := by simp [sa]
theorem sa_drop (l : List (List UInt8)) (k : Nat) (h : k < l.length) : (sa l).drop k = .x (.string (bs l[k])) :: sa (l.drop (k + 1)) := by
  rw [sa, ← List.map_drop, List.drop_eq_getElem_cons h]; rfl
theorem sa_app (l m : List (List UInt8)) : sa (l ++ m) = sa l ++ sa m := by simp [sa]
theorem u8a_one (v : Int) (h0 : 0 ≤ v) (h1 : v < 256) : u8a [UInt8.ofNat v.toNat] = [.x (.int .u8 v)] := by
  have e : (UInt8.ofNat v.toNat).toNat = v.toNat := by
    rw [UInt8.toNat_ofNat']
    exact Nat.mod_eq_of_lt (by omega)
  simp [u8a, u8s, e]
  omega
theorem u8a_app (l m : List UInt8) : u8a (l ++ m) = u8a l ++ u8a m := by simp [u8a, u8s]
end Go.Proofs.YtkhhlmonhapmaaaGreatDoor
/- Bytes of strings in regions that draw. -/
namespace Go.Proofs.YtkhhlmonhapmaaaGreatDoor
open Go.RowKit
set_option linter.unusedSimpArgs false
set_option linter.unusedVariables false
theorem WInd_index_str {P : Program} {o : Oper} {ρ : Operand → AV} {H : List Hp} (t : TypeId) (x y : Operand) (k : IntKind) (i : Int) (j : Nat) (l : List UInt8) (ho : o.op = .index t x y) (hx : ρ x = .x (.string (bs l))) (hy : ρ y = .x (.int k i)) (ht : P.underlying t = some .string) (hi : i = (j : Int)) (h1 : j < l.length) : WInd P o ρ H (.x (.int .u8 (l.getD j 0).toNat)) := by
  subst hi
  intro V a w r
  have hg : (bs l)[j]? = some l[j] := by rw [getElem?_pos (bs l) j (by simpa using h1)]; simp
  refine ⟨.int .u8 (l.getD j 0).toNat, fun w' => ?_, by rw [Den]⟩
  have hrun : (Instr.index t (.string (bs l)) (.int k (j : Int))).run P w' = .ok (.int .u8 (l.getD j 0).toNat) w' := by simp [Instr.index, asIntOf, run_underlying ht, hg, h1, List.getD]
  simp [execOp, ho, r.evx (x := x) (by simp [ho, Op.operands]) hx, r.evx (x := y) (by simp [ho, Op.operands]) hy, hrun]
theorem getD_at {α : Type} (s : List α) (k : Nat) (d : α) (h : k < s.length) : s.getD k d = s[k] := by simp [List.getD, h]
end Go.Proofs.YtkhhlmonhapmaaaGreatDoor
/- A walk over symbolic memory: bytes of a string as a row of the call's own; parts of such rows. No program in sight. -/
namespace Go.Proofs.YtkhhlmonhapmaaaGreatDoor
open Go.RowKit
set_option linter.unusedSimpArgs false
set_option linter.unusedVariables false
section
variable {P : Program} {Δ : List Deferred} {V O : Nat → Prop} {w0 w w' : World} {H H' D : List Hp} {T T' : List AV} {a : Act} {o : Oper} {ρ : Operand → AV} {Q : Post}
end
section
variable {P : Program} {H : List Hp} {T : List AV} {o : Oper} {ops : Array Oper} {Q : Post}
end
end Go.Proofs.YtkhhlmonhapmaaaGreatDoor
/- A walk over symbolic memory: functions that may panic. No program in sight. -/
namespace Go.Proofs.YtkhhlmonhapmaaaGreatDoor
open Go.RowKit
set_option linter.unusedSimpArgs false
set_option linter.unusedVariables false
section
variable {P : Program} {Δ : List Deferred} {V O : Nat → Prop} {w0 w w' : World} {H H' D : List Hp} {T T' : List AV} {a : Act} {o : Oper} {ops : Array Oper} {Q : Post}
def one1 (pv : Value) : List PanicEntry := [{ v := pv, recovered := false }]
def SpecP (P : Program) (f : FuncId) (H : List Hp) (args : List AV) (Q : AV → List Hp → Prop) (QP : Value → List Hp → Prop) : Prop :=
  ∀ (V : Nat → Prop) (w : World) (vs : List Value), (∀ k, V k → k < w.heap.size) → HOk V w H → DenL (FB V H) w args vs → GL (blks H) w →
    Calls P f vs.toArray w fun e w' => (∃ r H' v, Q r H' ∧ e = .returned v ∧ Den (FB V H') w' r v ∧ HOk V w' H' ∧ Fr (blks H) w w' ∧ ∀ h ∈ H', ∀ k, h.blk = some k → blks H k ∨ w.heap.size ≤ k) ∨
      ∃ pv H', QP pv H' ∧ e = .panicked (one1 pv) ∧ HOk V w' H' ∧ Fr (blks H) w w' ∧ ∀ h ∈ H', ∀ k, h.blk = some k → blks H k ∨ w.heap.size ≤ k
theorem SpecP.mono {f : FuncId} {args : List AV} {Q Q' : AV → List Hp → Prop} {QP QP' : Value → List Hp → Prop} (h : SpecP P f H args Q QP) (hq : ∀ r H', Q r H' → Q' r H') (hp : ∀ v H', QP v H' → QP' v H') : SpecP P f H args Q' QP' := fun V w vs h1 h2 h3 h4 =>
  (h V w vs h1 h2 h3 h4).mono fun e w' he => by
    rcases he with ⟨r, H', v, q, rest⟩ | ⟨pv, H', q, rest⟩
    · exact .inl ⟨r, H', v, hq _ _ q, rest⟩
    · exact .inr ⟨pv, H', hp _ _ q, rest⟩
theorem SpecP.no {f : FuncId} {args : List AV} {Q : AV → List Hp → Prop} (h : SpecP P f H args Q fun _ _ => False) : Spec P f H args Q := fun V w vs h1 h2 h3 h4 => (h V w vs h1 h2 h3 h4).mono fun e w' he => by
  rcases he with he | ⟨pv, H', q, _⟩
  · exact he
  · exact q.elim
def endP (P : Program) (fn : Func) (Q : AV → List Hp → Prop) (QP : Value → List Hp → Prop) : Post
  | .panic ch, T, H => ∃ pv H', ch = one1 pv ∧ Weak H [] H' [] ∧ QP pv H'
  | e, T, H => endA P fn Q e T H
theorem endP_ret {fn : Func} {Q : AV → List Hp → Prop} {QP : Value → List Hp → Prop} (r : AV) (H' : List Hp) (h : Res P fn T H r H') (q : Q r H') : endP P fn Q QP .ret T H := ⟨.inl rfl, r, H', h, q⟩
theorem endP_normal {fn : Func} {Q : AV → List Hp → Prop} {QP : Value → List Hp → Prop} (r : AV) (H' : List Hp) (h : Res P fn T H r H') (q : Q r H') : endP P fn Q QP .normal T H := ⟨.inr rfl, r, H', h, q⟩
theorem endP_panic {fn : Func} {Q : AV → List Hp → Prop} {QP : Value → List Hp → Prop} (pv : Value) (H' : List Hp) (h : Weak H [] H' []) (q : QP pv H') : endP P fn Q QP (.panic (one1 pv)) T H := ⟨pv, H', rfl, h, q⟩
theorem SpecP_of {f : FuncId} {fn : Func} {c : Code} {args : List AV} {Q : AV → List Hp → Prop} {QP : Value → List Hp → Prop} (hf : P.funcs[f]? = some fn) (hb : fn.body = some c)
    (h : awp P c (endP P fn Q QP) (args ++ List.replicate (fn.ntmps - args.length) .top) H) : SpecP P f H args Q QP := by
  intro V w vs hV hH hd hgl
  have hlen := hd.len
  refine calls_of_wp hf hb ?_
  have r : Rel [] V (blks H) w H (args ++ List.replicate (fn.ntmps - args.length) .top) { tmps := vs.toArray ++ Array.replicate (fn.ntmps - vs.toArray.size) undef, defers := [] } w := by
    refine ⟨?_, hH, Fr.refl _ _, fun x hx k hk => .inl ⟨x, hx, hk⟩, rfl, hV, hgl⟩
    simp only [Array.toList_append, Array.toList_replicate, List.size_toArray, hlen]
    refine hd.app (DenL.of (by simp) fun j av u h1 h2 => ?_)
    rw [List.getElem?_replicate] at h1
    split at h1
    · cases h1; rw [Den]; trivial
    · cases h1
  refine wp_mono (h [] V (blks H) w _ w r) ?_
  rintro e a' w' ⟨T', H1, r1, he⟩
  have hret : endA P fn Q e T' H1 → (e = .ret ∨ e = .normal) → bodyPost P fn (fun e w' => (∃ r H' v, Q r H' ∧ e = .returned v ∧ Den (FB V H') w' r v ∧ HOk V w' H' ∧ Fr (blks H) w w' ∧ ∀ h ∈ H', ∀ k, h.blk = some k → blks H k ∨ w.heap.size ≤ k) ∨
      ∃ pv H', QP pv H' ∧ e = .panicked (one1 pv) ∧ HOk V w' H' ∧ Fr (blks H) w w' ∧ ∀ h ∈ H', ∀ k, h.blk = some k → blks H k ∨ w.heap.size ≤ k) e a' w' := by
    rintro ⟨_, res, H', hres, hq⟩ he
    obtain ⟨v, g1, g2, g3, g4⟩ := hres [] V (blks H) w a' w' r1
    have := (⟨res, H', v, hq, rfl, g2, g3, r1.fr, fun x hx k hk => by obtain ⟨y, hy, e⟩ := g4 x hx k hk; exact r1.own y hy k e⟩ : ∃ r H' v', Q r H' ∧ Ending.returned v = .returned v' ∧ Den (FB V H') w' r v' ∧ HOk V w' H' ∧ Fr (blks H) w w' ∧ ∀ h ∈ H', ∀ k, h.blk = some k → blks H k ∨ w.heap.size ≤ k)
    rcases he with rfl | rfl
    · exact ⟨r1.defers, v, g1, .inl this⟩
    · exact ⟨r1.defers, v, g1, .inl this⟩
  cases e with
  | panic ch =>
    obtain ⟨pv, H', rfl, hw, hq⟩ := he
    obtain ⟨k1, -, k3⟩ := forgetL (vs := []) r1.hok (by rw [DenL]) hw
    exact ⟨r1.defers, .inr ⟨pv, H', hq, rfl, k1, r1.fr, fun x hx k hk => by obtain ⟨y, hy, e⟩ := k3 x hx k hk; exact r1.own y hy k e⟩⟩
  | ret => exact hret he (.inl rfl)
  | normal => exact hret he (.inr rfl)
  | _ => rcases he.1 with h | h <;> cases h
theorem wp_callP_of {Kc : Act → World → Prop} {Qc : Exit → Act → World → Prop} {c : Operand} {args : Array Operand} {tys : Array TypeId} {f : FuncId} {fn : Func} {fs cs vs : Array Value} (ho : o.op = .call { callee := .value c, args := args, argTypes := tys }) (hc : a.eval c = .func (.func f) fs cs)
    (hf : P.funcs[f]? = some fn) (hn : fn.name ≠ "runtime.NumGoroutine") (hb : fn.body.isSome = true) (hv : fs ++ args.map a.eval ++ cs = vs)
    (h : Calls P f vs w fun e w' => (∃ v, e = .returned v ∧ Kc (a.put o.dst v) w') ∨ ∃ ch, e = .panicked ch ∧ Qc (.panic ch) a w') : o.wp P a w Kc Qc := by
  have hrun : (execOp a.eval o).run P w = .ok (.enter f vs) w := by
    cases hbb : fn.body with
    | none => rw [hbb] at hb; cases hb
    | some c => simp [execOp, ho, resolve, hc, Deferred.ofValue, invoke, callFunc, hf, hn, hbb, ← hv]
  unfold Oper.wp
  rw [hrun]
  simp only [Oper.upon]
  refine h.mono ?_
  rintro e w' (⟨v, rfl, hk⟩ | ⟨ch, rfl, hk⟩)
  · exact hk
  · exact hk
theorem Rel.called {H1 R : List Hp} (r1 : Rel Δ V O w0 (H1 ++ R) T a w) (hok' : HOk (FB V R) w' H') (hfr : Fr (blks H1) w w') (hown : ∀ h ∈ H', ∀ k, h.blk = some k → blks H1 k ∨ w.heap.size ≤ k) :
    Rel Δ V O w0 (H' ++ R) T a w' ∧ ∀ res v, Den (FB (FB V R) H') w' res v → Den (FB V (H' ++ R)) w' res v := by
  have hap := List.pairwise_append.1 r1.hok.apart
  have hVF' : ∀ H1 k, FB (FB V R) H1 k ↔ FB V (H1 ++ R) k := fun H1 k => by
    simp only [FB, List.mem_append]
    constructor
    · rintro ((h | ⟨x, hx, e⟩) | ⟨x, hx, e⟩)
      · exact .inl h
      · exact .inr ⟨x, .inr hx, e⟩
      · exact .inr ⟨x, .inl hx, e⟩
    · rintro (h | ⟨x, hx | hx, e⟩)
      · exact .inl (.inl h)
      · exact .inr ⟨x, hx, e⟩
      · exact .inl (.inr ⟨x, hx, e⟩)
  have hF : ∀ k, FB V (H' ++ R) k → FB V (H1 ++ R) k ∨ w.heap.size ≤ k := fun k hk => by
    rcases (hVF' H' k).2 hk with hk | ⟨x, hx, e⟩
    · exact .inl ((hVF' H1 k).1 (.inl hk))
    · rcases hown x hx k e with ⟨y, hy, e'⟩ | h
      · exact .inl ((hVF' H1 k).1 (.inr ⟨y, hy, e'⟩))
      · exact .inr h
  have hw : ∀ k, k < w.heap.size → ¬ FB V (H1 ++ R) k → w'.heap[k]? = w.heap[k]? := fun k hk hn => hfr.block k hk fun ⟨y, hy, e⟩ => hn (.inr ⟨y, by simp [hy], e⟩)
  refine ⟨⟨DenL.conv hF hw _ _ r1.tmps, ⟨fun x hx => ?_, List.pairwise_append.2 ⟨hok'.apart, hap.2.1, fun x hx y hy k hk e => ?_⟩, fun x hx k hk => ?_⟩, ?_, fun x hx k hk => ?_, r1.defers, r1.vlt, r1.gl⟩, fun res v hdv => hdv.weak fun k hk => (hVF' H' k).2 hk⟩
  · rcases List.mem_append.1 hx with hx | hx
    · exact (hok'.ok x hx).weak fun k hk => (hVF' H' k).2 hk
    · exact (r1.hok.ok x (by simp [hx])).conv hF hw hfr.size fun k hk => hfr.block k (r1.hok.lt x (by simp [hx]) k hk).1 fun ⟨y, hy, e⟩ => hap.2.2 y hy x hx k e hk
  · exact (hok'.lt x hx k hk).2 (.inr ⟨y, hy, e⟩)
  · rcases List.mem_append.1 hx with hx | hx
    · exact ⟨(hok'.lt x hx k hk).1, fun hv => (hok'.lt x hx k hk).2 (.inl hv)⟩
    · exact ⟨Nat.lt_of_lt_of_le (r1.hok.lt x (by simp [hx]) k hk).1 hfr.size, (r1.hok.lt x (by simp [hx]) k hk).2⟩
  · refine r1.fr.trans hfr fun k hk hb => ?_
    obtain ⟨y, hy, e⟩ := hb
    rcases r1.own y (by simp [hy]) k e with h | h
    · exact h
    · omega
  · rcases List.mem_append.1 hx with hx | hx
    · rcases hown x hx k hk with ⟨y, hy, e⟩ | h
      · exact r1.own y (by simp [hy]) k e
      · exact .inr (Nat.le_trans r1.fr.size h)
    · exact r1.own x (by simp [hx]) k hk
theorem awpL_panic {rest : List Oper} {x : Operand} {t : TypeId} {v : Value} (hg : o.guard = none) (ho : o.op = .panic x) (hx : ev T x = .x (.iface t v)) (h : Q (.panic (one1 (.iface t v))) T H) : awpL P ops Q (o :: rest) T H := fun Δ V O w0 a w r => wpList_plain hg fun Kc hKc => by
  have hrun : (execOp a.eval o).run P w = .halt (.panic (.iface t v)) w := by
    simp [execOp, ho, r.evx hx, Instr.panic]
  unfold Oper.wp
  rw [hrun, Oper.upon_panic]
  exact ⟨T, H, r, h⟩
theorem thenA_panic {Kc : List AV → List Hp → Prop} {ch : List PanicEntry} (h : Q (.panic ch) T H) : thenA Kc Q (.panic ch) T H := h
theorem inBlockA_panic {id : Nat} {ch : List PanicEntry} (h : Q (.panic ch) T H) : inBlockA id Q (.panic ch) T H := h
end
end Go.Proofs.YtkhhlmonhapmaaaGreatDoor
