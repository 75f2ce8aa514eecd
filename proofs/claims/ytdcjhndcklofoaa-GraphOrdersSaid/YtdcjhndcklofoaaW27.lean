import Derived.Test.YtdcjhndcklofoaaW26
import Derived.Test.YtdcjhndcklofoaaW14
import Derived.OrdersHeld
/- The graph: the sanity check. -/
namespace Go.Proofs.Ytdcjhndcklofoaa
open Go.RowKit
set_option linter.unusedSimpArgs false
set_option linter.unusedVariables false
def sj1 : List JA := [zj [97] [[98]], zj [98] []]
def sj2 : List JA := [zj [97] [[98]], zj [98] [[97]]]
theorem sj1_ord : ord sj1 = [1, 0] := by decide +kernel
theorem sj2_ord : ord sj2 = [] := by decide +kernel
theorem sj2_cyc : cyc sj2 = [0, 1] := by decide +kernel
theorem rowis_flat (l : List Int) : ∀ r H', RowIs l r H' → (∃ v, r = .x v) ∧ ∀ x ∈ H', x.flat = true := by
  rintro r H' ⟨ad, cap, rfl, rfl⟩
  refine ⟨⟨_, rfl⟩, fun x hx => ?_⟩
  rw [List.mem_singleton] at hx
  subst hx
  simp [Hp.flat, ia, List.all_eq_true, AV.ex]
set_option maxRecDepth 100000 in
set_option maxHeartbeats 8000000 in
theorem sane_spec : Spec Try.prog 4 [] [] (fun r H' => r = .x (.bool true) ∧ H' = []) := by
  have o1 := gorder_spec sj1 (by decide) (by intro j hj; simp [sj1, zj] at hj; rcases hj with rfl | rfl <;> simp)
  have o2 := gorder_spec sj2 (by decide) (by intro j hj; simp [sj2, zj] at hj; rcases hj with rfl | rfl <;> simp)
  have c2 := cycle_spec sj2 (by decide) (by intro j hj; simp [sj2, zj] at hj; rcases hj with rfl | rfl <;> simp)
  rw [sj1_ord] at o1
  rw [sj2_ord] at o2
  rw [sj2_cyc] at c2
  refine Spec_of Try.func4 rfl ?_
  simp only [Try.ntmps4, List.length_cons, List.length_nil, List.replicate_succ, List.replicate_zero, List.cons_append, List.nil_append, Nat.reduceAdd, Nat.reduceSub]
  (repeat' (first | with_reducible (first | refine awp_seq ?_ | refine awp_region ?_ | refine awpL_nil ?_ | refine thenA_normal ?_) | ((apply awpL_evl2 rfl); (case h => ((try (intro (hp : (_ : Bool) = true); ((try simp only [Bool.and_eq_true, Bool.not_eq_true', Bool.not_eq_true] at hp); (try simp only [hp, wte]); (try simp only [whn] at hp)))); (first | (apply Evl_k 0 rfl; (first | exact Evl_mv _ rfl | exact Evl_as _ rfl)) | (apply Evl_k 10 rfl; (exact Evl_build _ _ _ _ _ rfl HPl.out (by first | rfl | fail) rfl))))); (case hT => ((try simp only [wtn, List.append_eq, List.foldl_cons, List.foldl_nil, List.map_cons, List.map_nil, Nat.reduceAdd, Nat.reduceMul, Nat.reduceSub, ↓reduceIte, Nat.reduceEqDiff]); rfl))) | (refine awpL_cons rfl ?_; (((refine Stp_k 17 rfl ?_; ((refine Stp_buildSlice _ _ _ _ _ _ _ _ rfl HElem.out (by first | rfl | fail) rfl (by decide) rfl (fun b => ?_))))); apply awpL_cong; (case hT => ((try simp only [wtn, List.append_eq, List.foldl_cons, List.foldl_nil, List.map_cons, List.map_nil, Nat.reduceAdd, Nat.reduceMul, Nat.reduceSub, ↓reduceIte, Nat.reduceEqDiff]); rfl)); (case hH => ((try simp only [wtn, List.append_eq, List.foldl_cons, List.foldl_nil, List.map_cons, List.map_nil, Nat.reduceAdd, Nat.reduceMul, Nat.reduceSub, ↓reduceIte, Nat.reduceEqDiff]); rfl)))) | fail))
  refine awpL_cons rfl ?_
  refine Stp_call 9 Try.f9 [_, _] [] [_] _ rfl rfl Try.func9 (by decide) rfl (List.Perm.refl _) (VwL.refl _ _) (Spec.lend _ o1 ?wo1 (rowis_flat _)) ?_
  case wo1 => (simp only [sj1, sj2, ja, zj, zo, JA.cells, List.flatMap_cons, List.flatMap_nil, List.append_nil, List.cons_append, List.nil_append, sa, List.map_cons, List.map_nil, List.length_cons, List.length_nil]; (repeat' (first | exact VwL.nil | (refine VwL.cons ?_ ?_) | exact Vw.nil | exact Vw.row (List.Mem.tail _ (List.Mem.head _)) (VwL.refl _ _) | exact Vw.refl _ | (refine Vw.row (List.Mem.head _) ?_) | fail))) 
  rintro _ _ ⟨H1, ⟨ad, cap, rfl, rfl⟩, rfl⟩
  (try simp only [wtn, List.append_eq, List.foldl_cons, List.foldl_nil, List.map_cons, List.map_nil, Nat.reduceAdd, Nat.reduceMul, Nat.reduceSub, ↓reduceIte, Nat.reduceEqDiff])
  refine awpL_row 0 rfl fun hcap hlen hcase => ?_
  obtain ⟨-, h0, -⟩ | ⟨bo, rfl⟩ := hcase
  · simp at h0
  clear hcap hlen
  (repeat' (first | with_reducible (first | refine awp_seq ?_ | refine awp_region ?_ | refine awpL_nil ?_ | refine thenA_normal ?_) | ((first | apply awpL_evl2 rfl | apply awpL_g2 _ _ rfl rfl rfl); (case h => ((try (intro (hp : (_ : Bool) = true); ((try simp only [Bool.and_eq_true, Bool.not_eq_true', Bool.not_eq_true] at hp); (try simp only [hp, wte]); (try simp only [whn] at hp)))); (first | (apply Evl_k 0 rfl; (first | exact Evl_mv _ rfl | exact Evl_as _ rfl)) | (apply Evl_k 1 rfl; (exact Evl_pickt _ _ _ rfl rfl)) | (apply Evl_k 5 rfl; (exact Evl_field_x _ _ _ _ _ _ rfl rfl HFld.out)) | (apply Evl_k 6 rfl; (exact Evl_load_row _ _ _ _ _ _ _ _ _ _ _ _ rfl rfl FRow.out HAgg.out (by first | exact Nat.le_of_ble_eq_true rfl | fail) (by first | exact Nat.le_of_ble_eq_true rfl | fail))) | (apply Evl_x; (case hs => (intro _ _ h; cases h)); (case hx => rfl); (case hrun => (intro w; simp [wtb, AV.val, go_sem]; (try go_bits); rfl)))))); (case hT => ((try simp (disch := omega) only [wtn, ia, beq_self_eq_true, List.append_eq, List.foldl_cons, List.foldl_nil, List.map_cons, List.map_nil, Nat.reduceAdd, Nat.reduceMul, Nat.reduceSub, ↓reduceIte, Nat.reduceEqDiff]); rfl))) | (refine awpL_cons rfl ?_; ((first | (refine Stp_k 16 rfl ?_; ((refine Stp_store_row _ _ _ _ _ _ _ _ _ _ _ rfl rfl FRow.out HSize.out (by first | rfl | fail) (by first | exact Nat.le_of_ble_eq_true rfl | fail) ?_))) | (refine Stp_k 17 rfl ?_; ((refine Stp_buildSlice _ _ _ _ _ _ _ _ rfl HElem.out (by first | rfl | fail) rfl (by decide) rfl (fun b => ?_))))); apply awpL_cong; (case hT => ((try simp (disch := omega) only [wtn, ia, beq_self_eq_true, List.append_eq, List.foldl_cons, List.foldl_nil, List.map_cons, List.map_nil, Nat.reduceAdd, Nat.reduceMul, Nat.reduceSub, ↓reduceIte, Nat.reduceEqDiff]); rfl)); (case hH => ((try simp (disch := omega) only [wtn, ia, beq_self_eq_true, List.append_eq, List.foldl_cons, List.foldl_nil, List.map_cons, List.map_nil, Nat.reduceAdd, Nat.reduceMul, Nat.reduceSub, ↓reduceIte, Nat.reduceEqDiff]); rfl)))) | fail))
  refine awpL_gs _ rfl rfl rfl (fun hp => ?_) (fun hp => (by cases hp))
  simp only [List.map_cons, List.map_nil, str]
  refine Stp_k 11 rfl ?_
  refine Stp_call 9 Try.f9 [_, _, _, _] [] [_] _ rfl rfl Try.func9 (by decide) rfl (List.Perm.refl _) (VwL.refl _ _) (Spec.lend _ o2 ?wo2 (rowis_flat _)) ?_
  case wo2 => (simp only [sj1, sj2, ja, zj, zo, JA.cells, List.flatMap_cons, List.flatMap_nil, List.append_nil, List.cons_append, List.nil_append, sa, List.map_cons, List.map_nil, List.length_cons, List.length_nil]; (repeat' (first | exact VwL.nil | (refine VwL.cons ?_ ?_) | exact Vw.row (List.Mem.head _) (VwL.refl _ _) | exact Vw.row (List.Mem.tail _ (List.Mem.tail _ (List.Mem.tail _ (List.Mem.head _)))) (VwL.refl _ _) | exact Vw.refl _ | (refine Vw.row (List.Mem.tail _ (List.Mem.tail _ (List.Mem.head _))) ?_) | fail))) 
  rintro _ _ ⟨H1, ⟨ad2, cap2, rfl, rfl⟩, rfl⟩
  (try simp only [wtn, List.append_eq, List.foldl_cons, List.foldl_nil, List.map_cons, List.map_nil, Nat.reduceAdd, Nat.reduceMul, Nat.reduceSub, ↓reduceIte, Nat.reduceEqDiff])
  (repeat' (first | ((first | apply awpL_evl2 rfl | apply awpL_g2 _ _ rfl rfl rfl); (case h => ((try (intro (hp : (_ : Bool) = true); ((try simp only [Bool.and_eq_true, Bool.not_eq_true', Bool.not_eq_true] at hp); (try simp only [hp, wte]); (try simp only [whn] at hp)))); (first | (apply Evl_k 0 rfl; (exact Evl_mv _ rfl)) | (apply Evl_k 1 rfl; (exact Evl_pickt _ _ _ rfl rfl)) | (apply Evl_x; (case hs => (intro _ _ h; cases h)); (case hx => rfl); (case hrun => (intro w; simp [wtb, AV.val, go_sem]; (try go_bits); rfl)))))); (case hT => ((try simp (disch := omega) only [wtn, ia, beq_self_eq_true, List.append_eq, List.foldl_cons, List.foldl_nil, List.map_cons, List.map_nil, Nat.reduceAdd, Nat.reduceMul, Nat.reduceSub, ↓reduceIte, Nat.reduceEqDiff]); rfl))) | fail))
  refine awpL_gs _ rfl rfl rfl (fun hp => ?_) (fun hp => (by cases hp))
  simp only [List.map_cons, List.map_nil, str]
  refine Stp_k 11 rfl ?_
  refine Stp_call 11 Try.f11 [_, _, _, _, _] [] [_] _ rfl rfl Try.func11 (by decide) rfl (List.Perm.refl _) (VwL.refl _ _) (Spec.lend _ c2 ?wc2 (rowis_flat _)) ?_
  case wc2 => (simp only [sj1, sj2, ja, zj, zo, JA.cells, List.flatMap_cons, List.flatMap_nil, List.append_nil, List.cons_append, List.nil_append, sa, List.map_cons, List.map_nil, List.length_cons, List.length_nil]; (repeat' (first | exact VwL.nil | (refine VwL.cons ?_ ?_) | exact Vw.row (List.Mem.tail _ (List.Mem.head _)) (VwL.refl _ _) | exact Vw.row (List.Mem.tail _ (List.Mem.tail _ (List.Mem.tail _ (List.Mem.tail _ (List.Mem.head _))))) (VwL.refl _ _) | exact Vw.refl _ | (refine Vw.row (List.Mem.tail _ (List.Mem.tail _ (List.Mem.tail _ (List.Mem.head _)))) ?_) | fail))) 
  rintro _ _ ⟨H1, ⟨ad2, cap2, rfl, rfl⟩, rfl⟩
  (try simp only [wtn, List.append_eq, List.foldl_cons, List.foldl_nil, List.map_cons, List.map_nil, Nat.reduceAdd, Nat.reduceMul, Nat.reduceSub, ↓reduceIte, Nat.reduceEqDiff])
  (repeat' (first | with_reducible (first | refine awp_ret ?_ | refine awpL_nil ?_ | refine thenA_normal ?_) | ((first | apply awpL_evl2 rfl | apply awpL_g2 _ _ rfl rfl rfl); (case h => ((try (intro (hp : (_ : Bool) = true); ((try simp only [Bool.and_eq_true, Bool.not_eq_true', Bool.not_eq_true] at hp); (try simp only [hp, wte]); (try simp only [whn] at hp)))); (first | (apply Evl_k 0 rfl; (exact Evl_as _ rfl)) | (apply Evl_k 1 rfl; (exact Evl_pickt _ _ _ rfl rfl)) | (apply Evl_x; (case hs => (intro _ _ h; cases h)); (case hx => rfl); (case hrun => (intro w; simp [wtb, AV.val, go_sem]; (try go_bits); rfl)))))); (case hT => ((try simp (disch := omega) only [wtn, ia, beq_self_eq_true, List.append_eq, List.foldl_cons, List.foldl_nil, List.map_cons, List.map_nil, Nat.reduceAdd, Nat.reduceMul, Nat.reduceSub, ↓reduceIte, Nat.reduceEqDiff]); rfl))) | fail))
  refine endA_ret _ _ (Res1 rfl (RV.tmp _) (Weak.mk' [_, _, _, _, _, _] [] (List.Perm.refl _) (VwHs.refl _ _) (by first | exact VwL.refl _ _ | fail))) ?_
  exact ⟨rfl, rfl⟩
end Go.Proofs.Ytdcjhndcklofoaa
/- Bytes of strings in regions that draw. -/
namespace Go.Proofs.Ytdcjhndcklofoaa
open Go.RowKit
set_option linter.unusedSimpArgs false
set_option linter.unusedVariables false
/-- A byte of a string: it hangs on no memory. -/
theorem WInd_index_str {P : Program} {o : Oper} {ρ : Operand → AV} {H : List Hp} (t : TypeId) (x y : Operand) (k : IntKind) (i : Int) (j : Nat) (l : List UInt8) (ho : o.op = .index t x y) (hx : ρ x = .x (.string (bs l))) (hy : ρ y = .x (.int k i)) (ht : P.underlying t = some .string) (hi : i = (j : Int)) (h1 : j < l.length) : WInd P o ρ H (.x (.int .u8 (l.getD j 0).toNat)) := by
  subst hi
  intro V a w r
  have hg : (bs l)[j]? = some l[j] := by rw [getElem?_pos (bs l) j (by simpa using h1)]; simp
  refine ⟨.int .u8 (l.getD j 0).toNat, fun w' => ?_, by rw [Den]⟩
  have hrun : (Instr.index t (.string (bs l)) (.int k (j : Int))).run P w' = .ok (.int .u8 (l.getD j 0).toNat) w' := by simp [Instr.index, asIntOf, run_underlying ht, hg, h1, List.getD]
  simp [execOp, ho, r.evx (x := x) (by simp [ho, Op.operands]) hx, r.evx (x := y) (by simp [ho, Op.operands]) hy, hrun]
theorem getD_at {α : Type} (s : List α) (k : Nat) (d : α) (h : k < s.length) : s.getD k d = s[k] := by simp [List.getD, h]
theorem getq_at {α : Type} (s : List α) (k : Nat) (d : α) (h : k < s.length) : s[k]?.getD d = s[k] := by simp [h]
end Go.Proofs.Ytdcjhndcklofoaa
/- A walk over symbolic memory: in a region that draws its order, loads out of the call's own variables may be taken first, if what writes them waits for these loads. No program in sight. -/
namespace Go.Proofs.Ytdcjhndcklofoaa
open Go.RowKit
set_option linter.unusedSimpArgs false
set_option linter.unusedVariables false
section
variable {P : Program} {md : Region.Mode} {ops : Array Oper} {Q : Exit → Act → World → Prop} {S : World → Prop} {D : List Nat}
/-- Whatever order is picked; and each operation, but for those of D, leaves S as it is. -/
def wpAnyP (P : Program) (md : Region.Mode) (ops : Array Oper) (Q : Exit → Act → World → Prop) (D : List Nat) (S : World → Prop) : Nat → Array Bool → Act → World → Prop
  | 0, listed, a, w => Region.ready md ops listed = [] ∧ Q .normal a w
  | n + 1, listed, a, w => (Region.ready md ops listed = [] → Q .normal a w) ∧
      ∀ j ∈ Region.ready md ops listed, wpOp P ops Q j (fun a' w' => (D.contains j = false → S w → S w') ∧ wpAnyP P md ops Q D S n (listed.setIfInBounds j true) a' w') a w
theorem wpAnyP.any : ∀ {n : Nat} {listed : Array Bool} {a : Act} {w : World}, wpAnyP P md ops Q D S n listed a w → wpAny P md ops Q n listed a w
  | 0, _, _, _, h => h
  | _ + 1, _, _, _, h => ⟨h.1, fun j hj => wpOp_mono (fun _ _ k => wpAnyP.any k.2) (h.2 j hj)⟩
/-- Those that are still to come are in D: nothing more is asked. -/
theorem wpAnyP.rest : ∀ {n : Nat} {listed : Array Bool} {a : Act} {w : World}, (∀ j, j < ops.size → listed.getD j true = false → D.contains j = true) → wpAny P md ops Q n listed a w → wpAnyP P md ops Q D S n listed a w
  | 0, _, _, _, _, h => h
  | n + 1, listed, a, w, hD, h => ⟨h.1, fun j hj => wpOp_mono (fun a' w' k => by
      obtain ⟨h0, o, ho, _⟩ := mem_ready.1 hj
      have hlt : j < ops.size := (Array.getElem?_eq_some_iff.1 ho).1
      refine ⟨fun hn => (by rw [hD j hlt h0] at hn; cases hn), wpAnyP.rest (fun i hi h1 => hD i hi ?_) k⟩
      by_cases e : j = i
      · subst e; exact h0
      · rwa [getD_set_ne true e] at h1) (h.2 j hj)⟩
/-- An operation that may come up is taken first: it yields v wherever S holds; S holds; what may turn S waits for it. -/
theorem wpAnyP.first {i : Nat} {oi : Oper} {v : Value} (hi : ops[i]? = some oi) (hsel : Region.noSelect ops = true) (hpan : ∀ c a w, Q (.panic c) (a.put oi.dst v) w → Q (.panic c) a w)
    (hD : ∀ j o, D.contains j = true → ops[j]? = some o → ∃ e ∈ o.after, Region.binds md e = true ∧ e.on = i) : ∀ {n : Nat} {listed : Array Bool} {a : Act} {w : World},
    (∀ j o, ops[j]? = some o → j ≠ i → listed.getD j true = false → (∀ e ∈ o.after, Region.binds md e = true → e.on ≠ i) → oi.apart ops o = true) →
    i ∈ Region.ready md ops listed → YieldsIf P ops S oi v a → S w → wpAnyP P md ops Q D S n (listed.setIfInBounds i true) (a.put oi.dst v) w → wpAnyP P md ops Q D S (n + 1) listed a w := by
  have hns := Region.noSelect_spec hsel
  have waits : ∀ {listed : Array Bool} {j : Nat}, i ∈ Region.ready md ops listed → j ∈ Region.ready md ops listed → ∃ o, ops[j]? = some o ∧ listed.getD j true = false ∧ ∀ e ∈ o.after, Region.binds md e = true → e.on ≠ i := by
    intro listed j hr hj
    obtain ⟨h0, o, ho, hall⟩ := mem_ready.1 hj
    have hn := (mem_ready.1 hr).1
    refine ⟨o, ho, h0, fun e he hb heq => ?_⟩
    have hl := heq ▸ hall e he hb
    by_cases hs : i < listed.size
    · simp [hs] at hn hl; simp [hn] at hl
    · simp [Array.getElem?_eq_none (Nat.le_of_not_lt hs)] at hl
  intro n
  induction n with
  | zero =>
    intro listed a w _ hr hy hS H
    refine ⟨fun h => by simp [h] at hr, fun j hj => ?_⟩
    by_cases e : j = i
    · subst e; exact hy.wpOp hi hS ⟨fun _ _ => hS, H⟩
    · have := ready_mono hj e
      rw [H.1] at this; cases this
  | succ n ih =>
    intro listed a w hap hr hy hS H
    refine ⟨fun h => by simp [h] at hr, fun j hj => ?_⟩
    by_cases e : j = i
    · subst e; exact hy.wpOp hi hS ⟨fun _ _ => hS, H⟩
    · obtain ⟨o, ho, h0, hw⟩ := waits hr hj
      have hjD : D.contains j = false := by
        cases hc : D.contains j with
        | false => rfl
        | true => obtain ⟨e', he', hb, heq⟩ := hD j o hc ho; exact absurd heq (hw e' he' hb)
      refine wpOp_mono (fun a' w' k => ?_) (wpOp_putIf ho (hap j o ho e h0 hw) (fun cs b => hns i oi cs b hi) (fun cs b => hns j o cs b ho) hpan hy (H.2 j (ready_mono hj e)))
      obtain ⟨hy', hk, hrest⟩ := k
      have hS' := hk hjD hS
      refine ⟨fun _ _ => hS', ih (fun k ok hk hki hun hno => hap k ok hk hki ?_ hno) (ready_mono hr (Ne.symm e)) hy' hS' ?_⟩
      · by_cases ejk : j = k
        · subst ejk; exact h0
        · rwa [getD_set_ne true ejk] at hun
      · rw [Array.setIfInBounds_comm _ _ e]; exact hrest
end
section
variable {P : Program} {V O : Nat → Prop} {w0 w w' : World} {B H H' : List Hp} {T T' : List AV} {a a' : Act} {o : Oper} {ops : Array Oper} {Q : Post} {listed : Array Bool} {fuel : Nat} {D : List Nat}
/-- The blocks of B are as they were in wr. -/
def SameB (wr : World) (B : List Hp) (w : World) : Prop := ∀ k, blks B k → w.heap[k]? = wr.heap[k]?
theorem FB_app (B H : List Hp) (k : Nat) : FB (fun k => V k ∨ blks B k) H k ↔ FB V (B ++ H) k := by
  simp only [FB, blks, List.mem_append]
  constructor
  · rintro ((h | ⟨x, hx, e⟩) | ⟨x, hx, e⟩)
    · exact .inl h
    · exact .inr ⟨x, .inl hx, e⟩
    · exact .inr ⟨x, .inr hx, e⟩
  · rintro (h | ⟨x, hx | hx, e⟩)
    · exact .inl (.inl h)
    · exact .inl (.inr ⟨x, hx, e⟩)
    · exact .inr ⟨x, hx, e⟩
/-- The blocks of B set aside. -/
theorem Rel.aside (r : Rel V O w0 (B ++ H) T a w) : Rel (fun k => V k ∨ blks B k) (blks H) w H T a w where
  tmps := r.tmps.weak fun k hk => (FB_app B H k).1 hk
  hok := ⟨fun x hx => (r.hok.ok x (by simp [hx])).weak fun k hk => (FB_app B H k).1 hk, (List.pairwise_append.1 r.hok.apart).2.1, fun x hx k hk => ⟨(r.hok.lt x (by simp [hx]) k hk).1, fun hv => by
    rcases hv with hv | ⟨y, hy, e⟩
    · exact (r.hok.lt x (by simp [hx]) k hk).2 hv
    · exact (List.pairwise_append.1 r.hok.apart).2.2 y hy x hx k e hk⟩⟩
  fr := Fr.refl _ _
  own := fun x hx k hk => .inl ⟨x, hx, hk⟩
  defers := r.defers
  vlt := fun k hk => by
    rcases hk with hk | ⟨y, hy, e⟩
    · exact Nat.lt_of_lt_of_le (r.vlt k hk) r.fr.size
    · exact (r.hok.lt y (by simp [hy]) k e).1
/-- And back. -/
theorem Rel.rejoin (r : Rel V O w0 (B ++ H) T a w) (r' : Rel (fun k => V k ∨ blks B k) (blks H) w H' T' a' w') : Rel V O w0 (B ++ H') T' a' w' ∧ SameB w B w' := by
  have hap := List.pairwise_append.1 r.hok.apart
  have hsame : SameB w B w' := fun k ⟨y, hy, e⟩ => r'.fr.block k (r.hok.lt y (by simp [hy]) k e).1 fun ⟨x, hx, e'⟩ => hap.2.2 y hy x hx k e e'
  have hF : ∀ k, FB V (B ++ H') k → FB V (B ++ H) k ∨ w.heap.size ≤ k := fun k hk => by
    rcases (FB_app B H' k).2 hk with hk | ⟨x, hx, e⟩
    · exact .inl ((FB_app B H k).1 (.inl hk))
    · rcases r'.own x hx k e with ⟨y, hy, e'⟩ | h
      · exact .inl ((FB_app B H k).1 (.inr ⟨y, hy, e'⟩))
      · exact .inr h
  have hw : ∀ k, k < w.heap.size → ¬ FB V (B ++ H) k → w'.heap[k]? = w.heap[k]? := fun k hk hn => r'.fr.block k hk fun ⟨y, hy, e⟩ => hn (.inr ⟨y, by simp [hy], e⟩)
  refine ⟨⟨r'.tmps.weak (fun k hk => (FB_app B H' k).2 hk), ⟨fun x hx => ?_, List.pairwise_append.2 ⟨hap.1, r'.hok.apart, fun x hx y hy k hk e => (r'.hok.lt y hy k e).2 (.inr ⟨x, hx, hk⟩)⟩, fun x hx k hk => ?_⟩, ?_, fun x hx k hk => ?_, r'.defers, r.vlt⟩, hsame⟩
  · rcases List.mem_append.1 hx with hx | hx
    · exact (r.hok.ok x (by simp [hx])).conv hF hw r'.fr.size fun k hk => hsame k ⟨x, hx, hk⟩
    · exact (r'.hok.ok x hx).weak fun k hk => (FB_app B H' k).2 hk
  · rcases List.mem_append.1 hx with hx | hx
    · exact ⟨Nat.lt_of_lt_of_le (r.hok.lt x (by simp [hx]) k hk).1 r'.fr.size, (r.hok.lt x (by simp [hx]) k hk).2⟩
    · exact ⟨(r'.hok.lt x hx k hk).1, fun hv => (r'.hok.lt x hx k hk).2 (.inl hv)⟩
  · exact r.fr.trans r'.fr fun i hi ⟨y, hy, e⟩ => (r.own y (by simp [hy]) i e).resolve_right (by omega)
  · rcases List.mem_append.1 hx with hx | hx
    · exact r.own x (by simp [hx]) k hk
    · rcases r'.own x hx k hk with ⟨y, hy, e⟩ | h
      · exact r.own y (by simp [hy]) k e
      · exact .inr (Nat.le_trans r.fr.size h)
/-- The rest of a region that draws its order and turns memory; B: blocks that stand as they are until what is in D comes up. -/
def awpP (P : Program) (ops : Array Oper) (Q : Post) (D : List Nat) (B : List Hp) (fuel : Nat) (listed : Array Bool) (T : List AV) (H : List Hp) : Prop :=
  ∀ V O w0 wr a w, Rel V O w0 (B ++ H) T a w → SameB wr B w → wpAnyP P .any ops (lift V O w0 Q) D (SameB wr B) fuel listed a w
theorem awpP_drawn {id : Nat} {l : List Oper} (hm : P.follows .mixedOrders = true) (D : List Nat) (B R : List Hp) (hp : H.Perm (B ++ R)) (h : awpP P l.toArray Q D B l.length (Array.replicate l.length false) T R) : awp P (.region id l.toArray true) Q T H :=
  awp_drawnA hm fun V O w0 a w r => (h V O w0 w a w (r.perm hp) (fun _ _ => rfl)).any
theorem awpP_all {id : Nat} {l : List Oper} (hm : P.follows .mixedOrders = true) (D : List Nat) (h : awpP P l.toArray Q D H l.length (Array.replicate l.length false) T []) : awp P (.region id l.toArray true) Q T H := awpP_drawn hm D H [] (by rw [List.append_nil]) h
theorem awpP_cong {T' : List AV} {H' : List Hp} (hT : T = T') (hH : H = H') (h : awpP P ops Q D B fuel listed T' H') : awpP P ops Q D B fuel listed T H := hT ▸ hH ▸ h
def takeOkP (ops : Array Oper) (listed : Array Bool) (i : Nat) (D : List Nat) : Bool := takeOk ops listed i && D.all fun j => match ops[j]? with | some o => o.after.any fun e => Region.binds .any e && e.on == i | none => false
theorem takeOkP_D {i : Nat} (h : takeOkP ops listed i D = true) : ∀ j o, D.contains j = true → ops[j]? = some o → ∃ e ∈ o.after, Region.binds .any e = true ∧ e.on = i := fun j o hj ho => by
  unfold takeOkP at h
  rw [Bool.and_eq_true, List.all_eq_true] at h
  have := h.2 j (by simpa using hj)
  rw [ho] at this
  obtain ⟨e, he, hb⟩ := Array.any_eq_true'.1 this
  rw [Bool.and_eq_true, beq_iff_eq] at hb
  exact ⟨e, he, hb⟩
theorem awpP_yield (i : Nat) {o : Oper} {l : List Oper} (hi : nthO l i = some o) (hg : o.guard = none) (hc : takeOkP l.toArray listed i D = true) (hpan : ∀ c T H, ¬ Q (.panic c) T H) (av : AV)
    (h : ∀ V wr a w, OK V (B ++ H) (ev T) o a w → SameB wr B w → ∃ v, (∀ w', SameB wr B w' → (execOp a.eval o).run P w' = .ok (.value v) w') ∧ Den (FB V (B ++ H)) w av v) (hK : awpP P l.toArray Q D B fuel (listed.setIfInBounds i true) (putT T o.dst av) H) : awpP P l.toArray Q D B (fuel + 1) listed T H := by
  have hi : l.toArray[i]? = some o := by rw [List.getElem?_toArray, ← nthO_eq]; exact hi
  intro V O w0 wr a w r hS
  obtain ⟨v, hv, hd⟩ := h V wr a w (r.oks o) hS
  have hD := takeOkP_D hc
  unfold takeOkP takeOk at hc
  simp only [Bool.and_eq_true] at hc
  exact wpAnyP.first hi hc.1.1.1 (fun c a w ⟨T, H, _, hq⟩ => absurd hq (hpan c T H)) hD (Region.free_spec hi hc.1.1.2) (by simpa using hc.1.2) (.inl ⟨by simp [Region.wanted, hg], hv⟩) hS (hK V O w0 wr _ w (r.put _ hd) hS)
/-- What looks at no memory is taken first. -/
theorem awpP_take (i : Nat) {o : Oper} {l : List Oper} (hi : nthO l i = some o) (hg : o.guard = none) (hc : takeOkP l.toArray listed i D = true) (hpan : ∀ c T H, ¬ Q (.panic c) T H) (av : AV) (h : WInd P o (ev T) (B ++ H) av) (hK : awpP P l.toArray Q D B fuel (listed.setIfInBounds i true) (putT T o.dst av) H) : awpP P l.toArray Q D B (fuel + 1) listed T H :=
  awpP_yield i hi hg hc hpan av (fun V wr a w ok _ => by obtain ⟨v, hv, hd⟩ := h V a w ok; exact ⟨v, fun w' _ => hv w', hd⟩) hK
theorem run_loadVar_vals (t : TypeId) (b : Bool) (n : Nat) (h : aggT P t = some (b, n)) (w : World) (F : Nat → Prop) (g off : Nat) (cells : List AV) (vals : List Value) (hd : DenL F w cells vals) (hn : n ≤ cells.length) (hn0 : b = false → 0 < cells.length) :
    ∃ v, (∀ w', (∀ j u, vals[j]? = some u → w'.cell? ⟨g, off + j, none⟩ = some u) → (loadVar t ⟨g, off, none⟩).run P w' = .ok v w') ∧ Den F w (ldA b n cells) v := by
  have hadd : ∀ j, (⟨g, off, none⟩ : Addr).add j = ⟨g, off + j, none⟩ := fun j => by unfold Addr.add; split <;> simp_all
  cases b with
  | true =>
    refine ⟨.agg (vals.take n).toArray, fun w' hc => ?_, ?_⟩
    · obtain ⟨h1, h2⟩ := run_isAgg t true n h w'
      have hl : (loadCells ⟨g, off, none⟩ (vals.take n).length).run P w' = .ok (vals.take n).toArray w' := run_loadCells_list (P := P) w' _ _ fun j v hj => by
        rw [hadd]
        rw [List.getElem?_take] at hj
        split at hj
        · exact hc j v hj
        · cases hj
      have hlen : (vals.take n).length = n := by rw [List.length_take, hd.len]; omega
      rw [hlen] at hl
      simp [loadVar, h1, h2, hl]
    · simp only [ldA, if_true]; exact Den.mkA (hd.take n)
  | false =>
    have h0 := hn0 rfl
    obtain ⟨u, hu, hdu⟩ := hd.get 0 cells[0] (by simp [h0])
    refine ⟨u, fun w' hc => ?_, ?_⟩
    · obtain ⟨h1, h2⟩ := run_isAgg t false n h w'
      have := hc 0 u hu
      rw [Nat.add_zero] at this
      simp [loadVar, h1, run_load, this]
    · simp only [ldA, Bool.false_eq_true, if_false]
      rwa [List.getD_eq_getElem?_getD, List.getElem?_eq_getElem h0]
/-- A load out of a variable that stands as it is. -/
theorem awpP_load (i : Nat) {o : Oper} {l : List Oper} (hi : nthO l i = some o) (hg : o.guard = none) (hc : takeOkP l.toArray listed i D = true) (hpan : ∀ c T H, ¬ Q (.panic c) T H) (p : Nat) (t : TypeId) (x : Operand) (b off : Nat) (cells : List AV) (agg : Bool) (n : Nat)
    (ho : o.op = .load t x) (hx : ev T x = .x (.pointer (some ⟨b, off, none⟩))) (hb : B[p]? = some (.box b cells)) (ht : aggT P t = some (agg, n)) (hn : off + n ≤ cells.length) (hn0 : off < cells.length)
    (hK : awpP P l.toArray Q D B fuel (listed.setIfInBounds i true) (putT T o.dst (ldA agg n (cells.drop off))) H) : awpP P l.toArray Q D B (fuel + 1) listed T H :=
  awpP_yield i hi hg hc hpan _ (fun V wr a w ok hS => by
    obtain ⟨vals, hd, hl, hcl⟩ := ok.hok.ok (.box b cells) (List.mem_append_left _ (List.mem_of_getElem? hb))
    obtain ⟨v, hr, hdv⟩ := run_loadVar_vals (P := P) t agg n ht w _ b off (cells.drop off) (vals.drop off) (hd.drop off) (by simp; omega) (fun _ => by simp; omega)
    refine ⟨v, fun w' hS' => ?_, hdv⟩
    have hbk : blks B b := ⟨_, List.mem_of_getElem? hb, rfl⟩
    have hsame : w'.heap[b]? = w.heap[b]? := (hS' b hbk).trans (hS b hbk).symm
    have := hr w' fun j u hj => by
      rw [World.cell?_of_block (a := ⟨b, off + j, none⟩) hsame]; exact (hcl (off + j) u (by rwa [List.getElem?_drop] at hj)).1
    simp [execOp, ho, ok.evx (x := x) (by simp [ho, Op.operands]) hx, Instr.loadAt, Instr.sureAddr, this]) hK
theorem wpOp_of_stpP {j : Nat} (hi : ops[j]? = some o) (hg : o.guard = none) (h : Stp P o T H (awpP P ops Q D B fuel (listed.setIfInBounds j true))) (V O : Nat → Prop) (w0 wr : World) (r : Rel V O w0 (B ++ H) T a w) (hS : SameB wr B w) :
    wpOp P ops (lift V O w0 Q) j (fun a' w' => (D.contains j = false → SameB wr B w → SameB wr B w') ∧ wpAnyP P .any ops (lift V O w0 Q) D (SameB wr B) fuel (listed.setIfInBounds j true) a' w') a w := by
  unfold wpOp
  simp only [hi]
  rw [if_pos (by simp [Region.wanted, hg])]
  refine .inl (h _ _ _ a w _ _ r.aside fun T' H' a' w' hk hr => ?_)
  obtain ⟨r', hs⟩ := r.rejoin hr
  have hS' : SameB wr B w' := fun k hk => (hs k hk).trans (hS k hk)
  exact ⟨fun _ _ => hS', hk V O w0 wr a' w' r' hS'⟩
/-- One operation may come up. -/
theorem awpP_1 (i : Nat) {o : Oper} {l : List Oper} (hr : Region.ready .any l.toArray listed = [i]) (hi : nthO l i = some o) (hg : o.guard = none) (h : Stp P o T H (awpP P l.toArray Q D B fuel (listed.setIfInBounds i true))) : awpP P l.toArray Q D B (fuel + 1) listed T H := fun V O w0 wr a w r hS =>
  ⟨fun h0 => (by rw [hr] at h0; cases h0), fun j hj => by
    rw [hr, List.mem_singleton] at hj; subst hj
    exact wpOp_of_stpP (by rw [List.getElem?_toArray, ← nthO_eq]; exact hi) hg h V O w0 wr r hS⟩
/-- One of two may come up. -/
theorem awpP_2 (i j : Nat) {o q : Oper} {l : List Oper} (hr : Region.ready .any l.toArray listed = [i, j]) (hi : nthO l i = some o) (hg : o.guard = none) (hj : nthO l j = some q) (hgj : q.guard = none) (h : Stp P o T H (awpP P l.toArray Q D B fuel (listed.setIfInBounds i true))) (h2 : Stp P q T H (awpP P l.toArray Q D B fuel (listed.setIfInBounds j true))) : awpP P l.toArray Q D B (fuel + 1) listed T H := fun V O w0 wr a w r hS =>
  ⟨fun h0 => (by rw [hr] at h0; cases h0), fun k hk => by
    rw [hr] at hk
    rcases List.mem_cons.1 hk with rfl | hk
    · exact wpOp_of_stpP (by rw [List.getElem?_toArray, ← nthO_eq]; exact hi) hg h V O w0 wr r hS
    · rw [List.mem_singleton] at hk; subst hk
      exact wpOp_of_stpP (by rw [List.getElem?_toArray, ← nthO_eq]; exact hj) hgj h2 V O w0 wr r hS⟩
/-- What is still to come is in D: the blocks of B are at hand again. -/
theorem awpP_rest {l : List Oper} (hr : ((List.range l.toArray.size).all fun j => listed.getD j true || D.contains j) = true) (h : awpA P l.toArray Q fuel listed T (B ++ H)) : awpP P l.toArray Q D B fuel listed T H := fun V O w0 wr a w r _ =>
  wpAnyP.rest (fun j hj h0 => by
    rw [List.all_eq_true] at hr
    have := hr j (List.mem_range.2 hj)
    rwa [h0, Bool.false_or] at this) (h V O w0 a w r)
end
end Go.Proofs.Ytdcjhndcklofoaa
