import Derived.Test.YtdcjhndcklofoaaW29
import Derived.Test.YtdcjhndcklofoaaW14
import Derived.Test.YtdcjhndcklofoaaW27
import Derived.Test.YtdcjhndcklofoaaW28
/- A walk over symbolic memory: new rows that nobody writes later, quiet. No program in sight. -/
namespace Go.Proofs.Ytdcjhndcklofoaa
open Go.RowKit
set_option linter.unusedSimpArgs false
set_option linter.unusedVariables false
section
variable {P : Program} {H : List Hp} {o : Oper} {ρ : Operand → AV}
/-- A row out of its elements, that is only read from then on. -/
theorem Evl_rowsq (t e : TypeId) (len : Nat) (parts : Array (Nat × Operand)) (z : Value) (size bytes : Nat) (cells : List AV) (ho : o.op = .buildSlice t len parts) (hE : ElemAt P t e z size bytes)
    (hone : (parts.toList.all fun p => (ρ p.2).cells.all AV.one) = true) (hz1 : z.cells.toList.all (·.oneCell') = true) (hlen : len * size ≤ 16777216)
    (hb : bldA (fun i => some (i * size, size)) ((List.replicate len (z.cells.toList.map .x)).flatten) (parts.toList.map fun p => (p.1, ρ p.2)) = some cells) : Evl P o ρ H (.sq len cells) := by
  intro V a w Kc Q r hKc
  obtain ⟨i, hi, hz, hsize, hby⟩ := info_parts hE.info
  have hpos := hE.pos
  have hzs := hE.zs
  -- the zeros
  have hz2 : z.cells.toList.length = size := by rw [Array.length_toList]; exact hzs
  have hzeros : ((Array.range (len * size)).map (z.cells[· % z.cells.size]!)).toList = (List.replicate len z.cells.toList).flatten := by
    apply List.ext_getElem?
    intro j
    simp only [Array.toList_map, Array.toList_range, List.getElem?_map]
    by_cases hj : j < len * size
    · rw [List.getElem?_range hj]
      have hmod : j % size < size := Nat.mod_lt _ hpos
      have key : ∀ (n : Nat) (j : Nat), j < n * size → ((List.replicate n z.cells.toList).flatten)[j]? = z.cells.toList[j % size]? := by
        intro n
        induction n with
        | zero => intro j h; simp at h
        | succ n ih =>
          intro j h
          rw [List.replicate_succ, List.flatten_cons]
          by_cases h1 : j < size
          · rw [List.getElem?_append_left (by simp; omega), Nat.mod_eq_of_lt h1]
          · rw [List.getElem?_append_right (by simp; omega), Array.length_toList, hzs, ih (j - size) (by rw [Nat.succ_mul] at h; omega), Nat.mod_eq_sub_mod (Nat.le_of_not_lt h1)]
      rw [key len j hj]
      simp [hzs, getElem!_pos, hmod]
    · rw [List.getElem?_eq_none (by simpa using hj), List.getElem?_eq_none (by simp [hzs]; omega)]; rfl
  obtain ⟨vr, hf, hd⟩ := bldA_den (F := FB V H) (w := w) _ _ _ ((Array.range (len * size)).map (z.cells[· % z.cells.size]!)) cells hb (by
    rw [hzeros]
    have : (List.replicate len (z.cells.toList.map AV.x)).flatten = ((List.replicate len z.cells.toList).flatten).map AV.x := by
      rw [List.map_flatten, List.map_replicate]
    rw [this]; exact DenL.exact) (parts_den parts (fun p hp => by simp [ho, Op.operands]; exact ⟨p.1, by simpa using hp⟩) r (fun p hp => List.all_eq_true.1 hone p (by simpa using hp)))
  have hrun : (execOp a.eval o).run P w = .ok (.value (.slice (some ⟨w.heap.size, 0, none⟩) len len)) (w.alloc (.cells vr e)) := by
    have h24 : ¬ (len * i.size > 16777216) := by rw [hsize]; omega
    by_cases h0 : len * i.size = 0
    · have hf' : Instr.fill (fun j => some (j * i.size, i.size)) #[] (parts.map fun (i, x) => (i, a.eval x)).toList = some vr := by
        rw [hsize] at h0 ⊢; rw [← hf, h0]; simp [Array.range]
      have hl0 : len = 0 := by
        rw [hsize] at h0
        rcases Nat.mul_eq_zero.1 h0 with h | h
        · exact h
        · omega
      subst hl0
      have hf2 : Instr.fill (fun j => some (j * i.size, i.size)) #[] (List.map (fun x => (x.1, a.eval x.2)) parts.toList) = some vr := by rw [← hf', Array.toList_map]
      simp [execOp, ho, Instr.buildSlice, run_underlying hE.under, sizeOf, typeInfo, hi, newRow, show Array.range 0 = #[] from rfl, hf2]
    · have hf' : Instr.fill (fun j => some (j * i.size, i.size)) (Array.map (fun x => z.cells[x % z.cells.size]!) (Array.range (len * i.size))) (parts.map fun (i, x) => (i, a.eval x)).toList = some vr := by
        rw [hsize]; exact hf
      simp [execOp, ho, Instr.buildSlice, run_underlying hE.under, sizeOf, typeInfo, hi, h0, h24, zeroValue, hz, newRow] at hf' ⊢
      simp [hf']
  have hvlen : vr.size = len * size := by
    have h1 := hd.len
    have : ∀ (ps : List (Nat × AV)) (cs r : List AV), bldA (fun i => some (i * size, size)) cs ps = some r → r.length = cs.length := by
      intro ps
      induction ps with
      | nil => intro cs r h; simp only [bldA] at h; cases h; rfl
      | cons p ps ih =>
        intro cs r h
        obtain ⟨i, v⟩ := p
        simp only [bldA] at h
        split at h
        · cases h
        · rename_i hn
          rw [ih _ _ h]
          simp [spl]; omega
    have h2 := this _ _ _ hb
    rw [Array.length_toList] at h1
    rw [h1, h2]; simp [hzs]
  unfold Oper.wp
  rw [hrun]
  have hE' : Ext w (w.alloc (.cells vr e)) := Ext.al _ _
  have hones : cells.all AV.one = true := by
    have : ∀ (ps : List (Nat × AV)) (cs r : List AV), (ps.all fun p => p.2.cells.all AV.one) = true → cs.all AV.one = true → bldA (fun i => some (i * size, size)) cs ps = some r → r.all AV.one = true := by
      intro ps
      induction ps with
      | nil => intro cs r _ hc h; simp only [bldA] at h; cases h; exact hc
      | cons p ps ih =>
        intro cs r hp hc h
        obtain ⟨i, v⟩ := p
        simp only [bldA] at h
        simp only [List.all_cons, Bool.and_eq_true] at hp
        split at h
        · cases h
        · refine ih _ _ hp.2 ?_ h
          simp only [spl, List.all_append, Bool.and_eq_true]
          exact ⟨⟨List.all_eq_true.2 fun x hx => List.all_eq_true.1 hc x (List.mem_of_mem_take hx), hp.1⟩, List.all_eq_true.2 fun x hx => List.all_eq_true.1 hc x (List.mem_of_mem_drop hx)⟩
    refine this _ _ _ ?_ ?_ hb
    · rw [List.all_map]; exact hone
    · rw [List.all_eq_true]
      intro x hx
      obtain ⟨l, hl, hx⟩ := List.mem_flatten.1 hx
      rw [List.eq_of_mem_replicate hl] at hx
      obtain ⟨v, hv, rfl⟩ := List.mem_map.1 hx
      exact List.all_eq_true.1 hz1 v hv
  have hF : ∀ k, FB V H k → k < w.heap.size := fun k hk => by
    rcases hk with hk | ⟨x, hx, e⟩
    · exact r.vlt k hk
    · exact (r.hok.lt x hx k e).1
  refine hKc _ _ hE' ?_
  rw [Den]
  refine ⟨_, _, vr.toList, rfl, Nat.le_refl _, by unfold maxLen; have : len ≤ len * size := Nat.le_mul_of_pos_right _ hpos; omega, fun h => (by cases h), .inr ⟨_, _, rfl, fun hk => by have := hF _ hk; omega, fun j u hj => ⟨?_, hd.one hones u (List.mem_of_getElem? hj)⟩⟩, DenL.conv (fun k hk => .inl hk) (fun k hk _ => hE'.block k hk) _ _ hd⟩
  rw [Nat.zero_add, World.cell?_alloc_new]; simpa using hj
/-- '[]byte(s)', that is only read from then on. -/
theorem Evl_bytes (src dst e : TypeId) (x : Operand) (l : List UInt8) (ho : o.op = .convert src dst x) (hs : P.underlying src = some .string) (ht : P.underlying dst = some (.slice e)) (he : P.elem dst = e) (hu : P.underlying e = some (.int .u8)) (hx : ρ x = .x (.string (bs l))) (hl : l.length ≤ 1000000) : Evl P o ρ H (.sq l.length (u8a l)) := by
  intro V a w Kc Q r hKc
  have hrun := conv_string_bytes (P := P) w src dst e (bs l) hs (by rw [ht, he]) he hu
  have h1 := grownCap_ge w (bs l).size 0 e
  have h2 := grownCap_le_maxLen w (bs l).size 0 e (by rw [bs_size]; unfold maxLen; omega)
  rw [bs_size] at h1 h2 hrun
  have hsl := bs_conv w 0 w.heap.size l.length e (bs l) l rfl (by simp) (by simp) (by simpa using hl) (Nat.zero_le _)
  obtain ⟨ad, cap, e1, _, _, _, _, hc⟩ := hsl
  simp only [Value.slice.injEq] at e1
  obtain ⟨rfl, -, -⟩ := e1
  have hE : Ext w (w.ext #[strObj w e (bs l)] (w.drawn + 1)) := Ext.ext _ _ _
  have hF : ∀ k, FB V H k → k < w.heap.size := fun k hk => by
    rcases hk with hk | ⟨x, hx, e⟩
    · exact r.vlt k hk
    · exact (r.hok.lt x hx k e).1
  unfold Oper.wp execOp
  simp only [ho, r.evx (x := x) (by simp [ho, Op.operands]) hx, hrun, Sem.run_bind, Sem.run_pure, Result.andThen_ok, Oper.upon]
  refine hKc _ _ hE ?_
  rw [Den]
  refine ⟨_, _, u8s l, rfl, h1, h2, fun h => (by cases h), .inr ⟨_, _, rfl, fun hk => by have := hF _ hk; omega, fun j u hj => ⟨?_, u8s_one l u (List.mem_of_getElem? hj)⟩⟩, DenL.exact⟩
  obtain ⟨x, hx, hu⟩ := hc j u hj
  cases hx
  rwa [add_none] at hu
theorem dm_end_some {P : Program} {B : List Hp} {l : List Oper} {L D : List Nat} {i : Nat} {z : List AV} {Q : Post} {k : Nat} {T : List AV} {H : List Hp} (h : ∀ b, awpA P l.toArray Q k (allBut l.length D) (putT T ((nthO l i).bind (·.dst)) (.x (.pointer (some ⟨b, 0, none⟩)))) (B ++ (.box b z :: H))) : dm P B l L [] T H (finM P B l D (some i) z Q k) := h
theorem dm_end_none {P : Program} {B : List Hp} {l : List Oper} {L D : List Nat} {z : List AV} {Q : Post} {k : Nat} {T : List AV} {H : List Hp} (h : awpA P l.toArray Q k (allBut l.length D) T (B ++ H)) : dm P B l L [] T H (finM P B l D none z Q k) := h
/-- The fresh variable of such a region. -/
theorem mix_alloc {l : List Oper} {n : Nat} {t : TypeId} {o' : Oper} {d : Nat} (ho' : nthO l n = some o') (hop : o'.op = .alloc t) (hd : o'.dst = some d) {zv : Value} (hz : (P.info? t).bind (·.zero) = some zv) (h1 : zv.cells.toList.all (·.oneCell') = true) {z : List AV} (hzz : zv.cells.toList.map AV.x = z) :
    ∀ (i : Nat) (o : Oper), some n = some i → nthO l i = some o → ∀ (T : List AV) (H : List Hp), Stp P o T H (fun T' H' => ∃ b, T' = putT T o.dst (.x (.pointer (some ⟨b, 0, none⟩))) ∧ H' = .box b z :: H) := by
  intro i o hi ho T H
  cases hi
  rw [ho'] at ho; cases ho
  subst hzz
  exact Stp_alloc t zv hop hz h1 fun b => ⟨b, rfl, rfl⟩
end
end Go.Proofs.Ytdcjhndcklofoaa
/- A walk over symbolic memory: rows given element by element. No program in sight. -/
namespace Go.Proofs.Ytdcjhndcklofoaa
open Go.RowKit
set_option linter.unusedSimpArgs false
set_option linter.unusedVariables false
section
variable {P : Program} {H : List Hp} {o : Oper} {ρ : Operand → AV} {T : List AV} {K : List AV → List Hp → Prop}
theorem bldA_seq : ∀ (l : List (Nat × AV)) (done zs : List AV), l.map (·.1) = List.range' done.length l.length → zs.length = l.length → (l.all fun p => p.2.one) = true → bldA (fun i => some (i * 1, 1)) (done ++ zs) l = some (done ++ l.map (·.2))
  | [], done, zs, _, hz, _ => by
    have : zs = [] := List.eq_nil_of_length_eq_zero (by simpa using hz)
    subst this; rfl
  | (i, v) :: l, done, zs, hi, hz, h1 => by
    simp only [List.map_cons, List.length_cons, List.range'_succ, List.cons.injEq] at hi
    obtain ⟨rfl, hi⟩ := hi
    simp only [List.all_cons, Bool.and_eq_true] at h1
    cases zs with
    | nil => simp at hz
    | cons z zs =>
      have hc := one_cells' h1.1
      rw [bldA]
      simp only [hc, List.length_cons, List.length_nil, Nat.mul_one]
      rw [if_neg (by simp), spl_one _ _ _ (by simp)]
      have : (done ++ z :: zs).set done.length v = (done ++ [v]) ++ zs := by
        rw [List.set_append_right _ _ (Nat.le_refl _)]; simp
      rw [this]
      have := bldA_seq l (done ++ [v]) zs (by rw [hi]; simp) (by simpa using hz) h1.2
      simp only [Nat.mul_one] at this ⊢
      rw [this]; simp
theorem bldA_all {len : Nat} {z : Value} {parts : List (Nat × Operand)} (hz : z.cells.toList.length = 1) (hi : parts.map (·.1) = List.range len) (h1 : (parts.all fun p => (ρ p.2).one) = true) : bldA (fun i => some (i * 1, 1)) ((List.replicate len (z.cells.toList.map .x)).flatten) (parts.map fun p => (p.1, ρ p.2)) = some (parts.map fun p => ρ p.2) := by
  have hlen : parts.length = len := by have := congrArg List.length hi; simpa using this
  have := bldA_seq (parts.map fun p => (p.1, ρ p.2)) [] ((List.replicate len (z.cells.toList.map .x)).flatten) (by
    rw [List.map_map]
    rw [List.length_map, hlen, List.length_nil, ← List.range_eq_range']
    exact hi) (by
    rw [List.length_map, hlen]
    clear hi h1 hlen
    induction len with
    | zero => rfl
    | succ n ih => rw [List.replicate_succ, List.flatten_cons, List.length_append, ih, List.length_map, hz]; omega) (by rw [List.all_map]; exact h1)
  rw [List.nil_append] at this
  rw [this, List.map_map]; rfl
theorem one_all {parts : List (Nat × Operand)} (h1 : (parts.all fun p => (ρ p.2).one) = true) : (parts.all fun p => (ρ p.2).cells.all AV.one) = true := by
  rw [List.all_eq_true] at h1 ⊢
  intro p hp
  have := h1 p hp
  rw [one_cells' this]; simp [this]
/-- Each element given, in order, one cell each: only read from then on. -/
theorem Evl_rowall (t e : TypeId) (len : Nat) (parts : Array (Nat × Operand)) (z : Value) (bytes : Nat) (ho : o.op = .buildSlice t len parts) (hE : ElemAt P t e z 1 bytes)
    (hi : parts.toList.map (·.1) = List.range len) (h1 : (parts.toList.all fun p => (ρ p.2).one) = true) (hz1 : z.cells.toList.all (·.oneCell') = true) (hz : z.cells.toList.length = 1) (hlen : len ≤ 16777216) : Evl P o ρ H (.sq len (parts.toList.map fun p => ρ p.2)) :=
  Evl_rowsq t e len parts z 1 bytes _ ho hE (one_all h1) hz1 (by omega) (bldA_all hz hi h1)
/-- The same, the caller's own. -/
theorem Stp_rowall (t e : TypeId) (len : Nat) (parts : Array (Nat × Operand)) (z : Value) (bytes : Nat) (ho : o.op = .buildSlice t len parts) (hE : ElemAt P t e z 1 bytes)
    (hi : parts.toList.map (·.1) = List.range len) (h1 : (parts.toList.all fun p => (ev T p.2).one) = true) (hz1 : z.cells.toList.all (·.oneCell') = true) (hz : z.cells.toList.length = 1) (hlen : len ≤ 16777216)
    (hK : ∀ b, K (putT T o.dst (.x (.slice (some ⟨b, 0, none⟩) len len))) (.row (some ⟨b, 0, none⟩) len len e 1 (parts.toList.map fun p => ev T p.2) :: H)) : Stp P o T H K :=
  Stp_buildSlice t e len parts z 1 bytes _ ho hE (one_all h1) hz1 (by omega) (bldA_all hz hi h1) hK
end
end Go.Proofs.Ytdcjhndcklofoaa
/- The mill: numbers of a deck, names, patterns, output; what they are is bounded, no more is said. -/
namespace Go.Proofs.Ytdcjhndcklofoaa
open Go.RowKit
set_option linter.unusedSimpArgs false
set_option linter.unusedVariables false
/-- What holds of a deck all the time. -/
structure DK (l : List Int) : Prop where
  len : l.length ≤ 140737488355328
  vals : I64 l
theorem nextv_lt (l : List Int) (k n : Nat) (hn : 1 ≤ n) : ∃ v : Nat, nextv l k n = v ∧ v < n := by
  unfold nextv
  split
  · refine ⟨(l[k] % n).toNat, ?_, ?_⟩
    · have := Int.emod_nonneg l[k] (show (n : Int) ≠ 0 by omega); omega
    · have h1 := Int.emod_nonneg l[k] (show (n : Int) ≠ 0 by omega)
      have h2 := Int.emod_lt_of_pos l[k] (show (0 : Int) < n by omega); omega
  · exact ⟨0, rfl, by omega⟩
/-- A deck, somewhere in its numbers. -/
def dk (b : Nat) (l : List Int) (k : Nat) : List AV := [.sq l.length (ia l), .x (.int .i64 k)]
theorem next_w (b : Nat) (l : List Int) (k n : Nat) (hd : DK l) (hk : k ≤ l.length) (hn : 1 ≤ n) (hn2 : n ≤ 1000000) : Spec Try.prog 14 [.box b [.sq l.length (ia l), .x (.int .i64 k)]] [.x (.pointer (some ⟨b, 0, none⟩)), .x (.int .i64 n)] (fun r H' => ∃ v k' : Nat, r = .x (.int .i64 v) ∧ H' = [.box b [.sq l.length (ia l), .x (.int .i64 k')]] ∧ v < n ∧ k' ≤ l.length) := by
  refine (next_spec b l k n hd.len hk hn hn2 hd.vals).mono ?_
  rintro r H' ⟨rfl, rfl⟩
  obtain ⟨v, e, hv⟩ := nextv_lt l k n hn
  exact ⟨v, min (k + 1) l.length, by rw [e], rfl, hv, by omega⟩
set_option maxRecDepth 100000 in
set_option maxHeartbeats 8000000 in
theorem range_w (b : Nat) (l : List Int) (k lo hi : Nat) (hd : DK l) (hk : k ≤ l.length) (hn : lo ≤ hi) (hn2 : hi ≤ 1000) : Spec Try.prog 15 [.box b [.sq l.length (ia l), .x (.int .i64 k)]] [.x (.pointer (some ⟨b, 0, none⟩)), .x (.int .i64 lo), .x (.int .i64 hi)] (fun r H' => ∃ v k' : Nat, r = .x (.int .i64 v) ∧ H' = [.box b [.sq l.length (ia l), .x (.int .i64 k')]] ∧ lo ≤ v ∧ v ≤ hi ∧ k' ≤ l.length) := by
  refine Spec_of Try.func15 rfl ?_
  simp only [Try.ntmps15, List.length_cons, List.length_nil, List.replicate_succ, List.replicate_zero, List.cons_append, List.nil_append, Nat.reduceAdd, Nat.reduceSub]
  have e : (hi : Int) - lo + 1 = ((hi - lo + 1 : Nat) : Int) := by omega
  (repeat' (first | with_reducible (first | refine awp_seq ?_ | refine awp_region ?_ | refine awp_ret ?_ | refine awpL_nil ?_ | refine thenA_normal ?_) | ((apply awpL_evl2 rfl); (case h => ((try (intro (hp : (_ : Bool) = true); ((try simp only [Bool.and_eq_true, Bool.not_eq_true', Bool.not_eq_true] at hp); (try simp only [hp, wte]); (try simp only [whn] at hp)))); (first | (apply Evl_k 0 rfl; (first | exact Evl_mv _ rfl | exact Evl_as _ rfl)) | (apply Evl_x; (case hs => (intro _ _ h; cases h)); (case hx => rfl); (case hrun => (intro w; simp [wtb, AV.val, go_sem]; (try go_bits); rfl)))))); (case hT => ((try simp (disch := omega) only [wtn, e, List.append_eq, List.foldl_cons, List.foldl_nil, List.map_cons, List.map_nil, Nat.reduceAdd, Nat.reduceMul, Nat.reduceSub, ↓reduceIte, Nat.reduceEqDiff]); rfl))) | (refine awpL_cons rfl ?_; (((refine Stp_k 11 rfl ?_; ((refine Stp_call 14 Try.f14 ([_]) _ _ _ rfl rfl Try.func14 (by decide) rfl (List.Perm.refl _) (VwL.refl _ _) (next_w b l k (hi - lo + 1) hd hk (by omega) (by omega)) ?_; rintro _ _ ⟨v, k', rfl, rfl, hv, hk'⟩)))); apply awpL_cong; (case hT => ((try simp (disch := omega) only [wtn, e, List.append_eq, List.foldl_cons, List.foldl_nil, List.map_cons, List.map_nil, Nat.reduceAdd, Nat.reduceMul, Nat.reduceSub, ↓reduceIte, Nat.reduceEqDiff]); rfl)); (case hH => ((try simp (disch := omega) only [wtn, e, List.append_eq, List.foldl_cons, List.foldl_nil, List.map_cons, List.map_nil, Nat.reduceAdd, Nat.reduceMul, Nat.reduceSub, ↓reduceIte, Nat.reduceEqDiff]); rfl)))) | fail))
  refine endA_ret _ _ (Res1 rfl (RV.tmp _) (Weak.mk' [] _ (List.Perm.refl _) (VwHs.refl _ _) (VwL.refl _ _))) ?_
  exact ⟨lo + v, k', by congr 2, rfl, by omega, by omega, hk'⟩
theorem getq (l : List (List UInt8)) (k : Nat) (h : k < l.length) : (sa l).drop k = .x (.string (bs (l.getD k []))) :: sa (l.drop (k + 1)) := by
  rw [sa_drop l k h, List.getD_eq_getElem?_getD, List.getElem?_eq_getElem h]; rfl
theorem pick_sa (l : List (List UInt8)) (v : Nat) (h : v < l.length) : ((sa l).drop v).getD 0 .top = .x (.string (bs (l.getD v []))) := by
  rw [getq l v h]; rfl
theorem allD (l : List (List UInt8)) (p : List UInt8 → Prop) (h : ∀ s ∈ l, p s) (v : Nat) (hv : v < l.length) : p (l.getD v []) := by
  rw [List.getD_eq_getElem?_getD, List.getElem?_eq_getElem hv]; exact h _ (List.getElem_mem hv)
def names : List (List UInt8) := [[97], [98], [99], [100], [120]]
def outs : List (List UInt8) := [[111, 107], [111], [107], [114, 101, 97, 100, 121, 10], [117, 112], [10, 103, 111, 111], [49, 50, 120], [97, 98, 97, 98, 99], [99], [10], [122, 122], [27, 91, 49, 109, 104, 105, 13, 10]]
theorem getD_cells {l : List AV} (h : l = sa outs) {v : Nat} (hv : v < outs.length) : (l.drop v).getD 0 .top = .x (.string (bs (outs.getD v []))) := h ▸ pick_sa outs v hv
def pats : List (List UInt8) := [[111, 107], [], [114, 46, 42, 121, 36], [94, 117, 112, 124, 103, 111, 43], [91, 48, 45, 57, 93, 43, 120, 63], [40, 97, 98, 41, 42, 99], [94, 36]]
set_option maxRecDepth 100000 in
set_option maxHeartbeats 8000000 in
theorem patterns_w : Spec Try.prog 29 [] [] (fun r H' => r = .sq 7 (sa pats) ∧ H' = []) := by
  refine Spec_of Try.func29 rfl ?_
  simp only [Try.ntmps29, List.length_cons, List.length_nil, List.replicate_succ, List.replicate_zero, List.cons_append, List.nil_append, Nat.reduceAdd, Nat.reduceSub]
  (repeat' (first | with_reducible (first | refine awp_seq ?_ | refine awp_region ?_ | refine awp_ret ?_ | refine awpL_nil ?_ | refine thenA_normal ?_) | ((apply awpL_evl2 rfl); (case h => ((try (intro (hp : (_ : Bool) = true); ((try simp only [Bool.and_eq_true, Bool.not_eq_true', Bool.not_eq_true] at hp); (try simp only [hp, wte]); (try simp only [whn] at hp)))); (first | (apply Evl_k 0 rfl; (exact Evl_as _ rfl)) | (apply Evl_k 17 rfl; (exact Evl_rowall _ _ _ _ _ _ rfl HElem.out rfl (by first | rfl | fail) rfl rfl (by decide)))))); (case hT => ((try simp only [wtn, List.append_eq, List.foldl_cons, List.foldl_nil, List.map_cons, List.map_nil, Nat.reduceAdd, Nat.reduceMul, Nat.reduceSub, ↓reduceIte, Nat.reduceEqDiff]); rfl))) | fail))
  refine endA_ret _ _ (Res1 rfl (RV.tmp _) (Weak.mk' [] _ (List.Perm.refl _) (VwHs.refl _ _) (VwL.refl _ _))) ?_
  exact ⟨rfl, rfl⟩
end Go.Proofs.Ytdcjhndcklofoaa
/- Rows of rungs. -/
namespace Go.Proofs.Ytdcjhndcklofoaa
open Go.RowKit
set_option linter.unusedSimpArgs false
set_option linter.unusedVariables false
/-- The cells of rungs. -/
def ra (l : List (Int × Int)) : List AV := l.flatMap fun s => [.x (.int .i64 s.1), .x (.int .u64 s.2)]
@[simp] theorem ra_len (l : List (Int × Int)) : (ra l).length = l.length * 2 := by
  induction l with
  | nil => rfl
  | cons j l ih => simp only [ra, List.flatMap_cons, List.length_append, List.length_cons] at ih ⊢; rw [ih]; simp; omega
theorem ra_app (l m : List (Int × Int)) : ra (l ++ m) = ra l ++ ra m := by simp [ra]
end Go.Proofs.Ytdcjhndcklofoaa
/- A job, whole: its cells. -/
namespace Go.Proofs.Ytdcjhndcklofoaa
open Go.RowKit
set_option linter.unusedSimpArgs false
set_option linter.unusedVariables false
/-- The cells of variables. -/
def ea (l : List (List UInt8 × List UInt8)) : List AV := l.flatMap fun s => [.x (.string (bs s.1)), .x (.string (bs s.2))]
@[simp] theorem ea_len (l : List (List UInt8 × List UInt8)) : (ea l).length = l.length * 2 := by
  induction l with
  | nil => rfl
  | cons j l ih => simp only [ea, List.flatMap_cons, List.length_append, List.length_cons] at ih ⊢; rw [ih]; simp; omega
theorem ea_app (l m : List (List UInt8 × List UInt8)) : ea (l ++ m) = ea l ++ ea m := by simp [ea]
/-- A job, whole. -/
structure JF where
  name : List UInt8
  run : List UInt8
  env : List (List UInt8 × List UInt8)
  needs : List (List UInt8)
  hasr : Bool
  ready : List UInt8
  restart : Int
  base : Int
  cap : Int
  stable : Int
  burst : Int
  window : Int
  ladder : List (Int × Int)
  line : Int
  col : Int
def JF.cells (j : JF) : List AV := [.x (.string (bs j.name)), .x (.string (bs j.run)), .sq j.env.length (ea j.env), .sq j.needs.length (sa j.needs), .x (.bool j.hasr), .x (.string (bs j.ready)), .x (.int .i64 j.restart), .x (.int .u64 j.base), .x (.int .u64 j.cap), .x (.int .u64 j.stable), .x (.int .i64 j.burst), .x (.int .u64 j.window), .sq j.ladder.length (ra j.ladder), .x (.int .i64 j.line), .x (.int .i64 j.col)]
def U64 (v : Int) : Prop := 0 ≤ v ∧ v ≤ 18446744073709551615
/-- A job with short texts. -/
structure JSmall (j : JF) : Prop where
  name : j.name.length ≤ 8
  run : j.run.length ≤ 16
  env : j.env.length ≤ 2
  enve : ∀ p ∈ j.env, p.1.length ≤ 8 ∧ p.2.length ≤ 8
  needs : j.needs.length ≤ 4
  neede : ∀ s ∈ j.needs, s.length ≤ 8
  ready : j.ready.length ≤ 16
  ladder : j.ladder.length ≤ 4
  laddere : ∀ p ∈ j.ladder, U64 p.2
  base : U64 j.base
  cap : U64 j.cap
  stable : U64 j.stable
  window : U64 j.window
  burst : -9223372036854775808 ≤ j.burst ∧ j.burst ≤ 9223372036854775807
theorem ea_drop (l : List (List UInt8 × List UInt8)) (k : Nat) (h : k < l.length) : (ea l).drop (k * 2) = .x (.string (bs l[k].1)) :: .x (.string (bs l[k].2)) :: ea (l.drop (k + 1)) := by
  induction l generalizing k with
  | nil => simp at h
  | cons j l ih =>
    cases k with
    | zero => simp [ea]
    | succ k =>
      simp only [ea, List.flatMap_cons, List.drop_succ_cons, List.getElem_cons_succ] at ih ⊢
      rw [show (k + 1) * 2 = 2 + k * 2 from by omega, ← List.drop_drop]
      exact ih k (by simpa using h)
theorem ra_drop (l : List (Int × Int)) (k : Nat) (h : k < l.length) : (ra l).drop (k * 2) = .x (.int .i64 l[k].1) :: .x (.int .u64 l[k].2) :: ra (l.drop (k + 1)) := by
  induction l generalizing k with
  | nil => simp at h
  | cons j l ih =>
    cases k with
    | zero => simp [ra]
    | succ k =>
      simp only [ra, List.flatMap_cons, List.drop_succ_cons, List.getElem_cons_succ] at ih ⊢
      rw [show (k + 1) * 2 = 2 + k * 2 from by omega, ← List.drop_drop]
      exact ih k (by simpa using h)
def jfa (l : List JF) : List AV := l.flatMap JF.cells
@[simp] theorem jfa_len (l : List JF) : (jfa l).length = l.length * 15 := by
  induction l with
  | nil => rfl
  | cons j l ih => simp only [jfa, List.flatMap_cons, List.length_append, List.length_cons] at ih ⊢; rw [ih]; simp [JF.cells]; omega
theorem jfa_drop (l : List JF) (k : Nat) (h : k < l.length) : (jfa l).drop (k * 15) = l[k].cells ++ jfa (l.drop (k + 1)) := by
  induction l generalizing k with
  | nil => simp at h
  | cons j l ih =>
    cases k with
    | zero => simp [jfa]
    | succ k =>
      simp only [jfa, List.flatMap_cons, List.drop_succ_cons, List.getElem_cons_succ] at ih ⊢
      rw [show (k + 1) * 15 = j.cells.length + k * 15 from by simp [JF.cells]; omega, ← List.drop_drop, List.drop_append_length]
      exact ih k (by simpa using h)
theorem jfa_drop' (l : List JF) (k : Nat) (h : k < l.length) : (jfa l).drop (k * 15) = .x (.string (bs l[k].name)) :: .x (.string (bs l[k].run)) :: .sq l[k].env.length (ea l[k].env) :: .sq l[k].needs.length (sa l[k].needs) :: .x (.bool l[k].hasr) :: .x (.string (bs l[k].ready)) :: .x (.int .i64 l[k].restart) :: .x (.int .u64 l[k].base) :: .x (.int .u64 l[k].cap) :: .x (.int .u64 l[k].stable) :: .x (.int .i64 l[k].burst) :: .x (.int .u64 l[k].window) :: .sq l[k].ladder.length (ra l[k].ladder) :: .x (.int .i64 l[k].line) :: .x (.int .i64 l[k].col) :: jfa (l.drop (k + 1)) := jfa_drop l k h
end Go.Proofs.Ytdcjhndcklofoaa
/- A walk over symbolic memory: the end of a region walked in one order. No program in sight. -/
namespace Go.Proofs.Ytdcjhndcklofoaa
open Go.RowKit
set_option linter.unusedSimpArgs false
set_option linter.unusedVariables false
theorem dm_end_alloc {P : Program} {B : List Hp} {l : List Oper} {L D : List Nat} {i d : Nat} {z : List AV} {Q : Post} {k : Nat} {T : List AV} {H : List Hp} (hd : (nthO l i).bind (·.dst) = some d) (h : ∀ b, awpA P l.toArray Q k (allBut l.length D) (T.set d (.x (.pointer (some ⟨b, 0, none⟩)))) (B ++ (.box b z :: H))) : dm P B l L [] T H (finM P B l D (some i) z Q k) :=
  dm_end_some fun b => by rw [hd]; exact h b
end Go.Proofs.Ytdcjhndcklofoaa
