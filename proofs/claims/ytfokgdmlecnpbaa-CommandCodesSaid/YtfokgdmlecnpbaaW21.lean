import Derived.Test.YtfokgdmlecnpbaaW20
/- Which command a payload is: bytes.Clone, the program's Decode. -/
namespace Go.Proofs.Ytfokgdmlecnpbaa
open Go.RowKit
set_option linter.unusedSimpArgs false
set_option linter.unusedVariables false
section
variable {P : Program} {o : Oper} {H : List Hp} {T : List AV} {K : List AV → List Hp → Prop}
/-- 'x == nil', of a slice of which it is not known whether it is nil. -/
theorem Stp_eqnil (x : Operand) (t t2 e : TypeId) (size n : Nat) (cells : List AV) (ht : elT P t = some (e, size)) (ho : o.op = .binOp .eql t x (.const (.slice none 0 0)) t2) (hx : ev T x = .sq n cells) (hK : ∀ v : Bool, (v = true → n = 0) → K (putT T o.dst (.x (.bool v))) H) : Stp P o T H K := by
  intro V O w0 a w Kc Q r hKc
  have hd := (r.oks o).ops x (by simp [ho, Op.operands])
  rw [hx, Den] at hd
  obtain ⟨ad, cap, vals, hv, h2, h3, h4, h5⟩ := hd
  have key : ∃ v : Bool, (v = true → n = 0) ∧ (execOp a.eval o).run P w = .ok (.value (.bool v)) w := by
    cases ad with
    | none =>
      have hn := h4 rfl
      refine ⟨true, fun _ => (by omega), ?_⟩
      simp only [execOp, ho]
      rw [hv]
      have key : ∀ d, (Op.equalIn (d + 1) t (.slice none n cap) (.slice none 0 0)).run P w = .ok true w := by
        intro d
        rw [Op.equalIn]
        simp [run_underlying (under_of_elT ht)]
      simp [Act.eval, eqGuard, binOp, Op.equal, go_sem]
      rw [show Op.maxDepth = (Op.maxDepth - 1) + 1 from rfl, key]
      rfl
    | some ad =>
      refine ⟨false, fun h => (by cases h), ?_⟩
      simp only [execOp, ho]
      rw [hv]
      have key : ∀ d, (Op.equalIn (d + 1) t (.slice (some ad) n cap) (.slice none 0 0)).run P w = .ok false w := by
        intro d
        rw [Op.equalIn]
        simp [run_underlying (under_of_elT ht)]
      simp [Act.eval, eqGuard, binOp, Op.equal, go_sem]
      rw [show Op.maxDepth = (Op.maxDepth - 1) + 1 from rfl, key]
      rfl
  obtain ⟨v, hvn, hrun⟩ := key
  unfold Oper.wp
  rw [hrun]
  exact hKc _ _ _ _ (hK v hvn) ((r.quiet (Below.refl _ _)).put _ (by rw [Den]))
/-- 'b[1:]' of bytes. -/
theorem Evl_slice_rest {ρ : Operand → AV} (t e : TypeId) (x y : Operand) (k : IntKind) (c : AV) (s : List UInt8) (ho : o.op = .slice t x (some y) none none) (hx : ρ x = .sq (s.length + 1) (c :: u8a s)) (ht : elT P t = some (e, 1)) (hy : ρ y = .x (.int k 1)) : Evl P o ρ H (.sq s.length (u8a s)) := by
  have h := Evl_slice_sq (o := o) (H := H) t e x (some y) none 1 (s.length + 1) 1 (s.length + 1) (c :: u8a s) ho hx ht (.inr ⟨y, k, rfl, hy⟩) (.inl ⟨rfl, rfl⟩) (by omega) (Nat.le_refl _)
  have e1 : ((c :: u8a s).drop (1 * 1)).take ((s.length + 1 - 1) * 1) = u8a s := by
    rw [Nat.mul_one, Nat.mul_one, Nat.add_sub_cancel, List.drop_succ_cons, List.drop_zero, List.take_of_length_le (by rw [u8a_len]; exact Nat.le_refl _)]
  rw [e1, Nat.add_sub_cancel] at h
  exact h
end
attribute [local simp] u8a_len
/-- The command that a payload would be. -/
def rawC (x : UInt8) (s : List UInt8) : CF := if x.toNat = 1 then ⟨1, (s.getD 0 0).toNat * 256 + (s.getD 1 0).toNat, (s.getD 2 0).toNat * 256 + (s.getD 3 0).toNat, [], []⟩ else if x.toNat = 3 ∨ x.toNat = 7 then ⟨x.toNat, 0, 0, [], s⟩ else ⟨x.toNat, 0, 0, s, []⟩
def okD : List UInt8 → Bool
  | [] => false
  | x :: s => decide (x.toNat = 1 → s.length = 4) && propC (rawC x s)
def CF.zero : CF := ⟨0, 0, 0, [], []⟩
def decC : List UInt8 → CF
  | [] => .zero
  | x :: s => if okD (x :: s) = true then rawC x s else .zero
set_option maxRecDepth 100000 in
set_option maxHeartbeats 8000000 in
theorem clone_s (s : List UInt8) (hs : s.length ≤ 4095) : Spec Try.prog 21 [] [.sq s.length (u8a s)] (fun r H' => r = .sq s.length (u8a s) ∧ H' = []) := by
  refine Spec_of Try.func21 rfl ?_
  simp only [Try.ntmps21, List.length_cons, List.length_nil, List.replicate_succ, List.replicate_zero, List.cons_append, List.nil_append, Nat.reduceAdd, Nat.reduceSub]
  (repeat' (first | with_reducible (first | refine awp_seq ?_ | refine awp_region ?_ | refine awpL_nil ?_ | refine thenA_normal ?_) | ((apply awpL_evl2 rfl); (case h => ((try (intro (hp : (_ : Bool) = true); ((try simp only [Bool.and_eq_true, Bool.not_eq_true', Bool.not_eq_true] at hp); (try simp only [hp, wte]); (try simp only [whn] at hp)))); ((apply Evl_k 0 rfl; (first | exact Evl_mv _ rfl | exact Evl_as _ rfl))))); (case hT => ((try simp only [wtn, List.append_eq, List.foldl_cons, List.foldl_nil, List.map_cons, List.map_nil, Nat.reduceAdd, Nat.reduceMul, Nat.reduceSub, ↓reduceIte, Nat.reduceEqDiff]); rfl))) | fail))
  refine awpL_cons rfl ?_
  refine Stp_eqnil _ _ _ _ _ _ _ HEl.out rfl rfl fun v hv => ?_
  refine awpL_cong rfl rfl ?_
  cases v with
  | true =>
    have e : s = [] := List.length_eq_zero_iff.1 (hv rfl)
    subst e
    (repeat' (first | with_reducible (first | refine awp_seq ?_ | refine awp_region ?_ | refine awp_ret ?_ | refine awpL_nil ?_ | refine thenA_normal ?_ | refine thenA_ret ?_) | (refine awp_cond _ rfl (fun h => ?_) (fun h => ?_) <;> first | (exact absurd h (by decide)) | ((try (simp only [whn] at h)); skip)) | ((apply awpL_evl2 rfl); (case h => ((try (intro (hp : (_ : Bool) = true); ((try simp only [Bool.and_eq_true, Bool.not_eq_true', Bool.not_eq_true] at hp); (try simp only [hp, wte]); (try simp only [whn] at hp)))); ((apply Evl_k 0 rfl; (exact Evl_as _ rfl))))); (case hT => ((try simp only [wtn, List.append_eq, List.foldl_cons, List.foldl_nil, List.map_cons, List.map_nil, Nat.reduceAdd, Nat.reduceMul, Nat.reduceSub, ↓reduceIte, Nat.reduceEqDiff]); rfl))) | fail))
    exact endA_ret _ _ (Res1 rfl (RV.tmp _) (Weak.mk' [] [] (List.Perm.refl _) VwHs.nil (VwL.cons Vw.nil VwL.nil))) ⟨rfl, rfl⟩
  | false =>
    clear hv
    (repeat' (first | with_reducible (first | refine awp_seq ?_ | refine awp_region ?_ | refine awp_ret ?_ | refine awp_skip ?_ | refine awpL_nil ?_ | refine thenA_normal ?_) | (refine awp_cond _ rfl (fun h => ?_) (fun h => ?_) <;> first | (exact absurd h (by decide)) | ((try (simp only [whn] at h)); skip)) | ((apply awpL_evl2 rfl); (case h => ((try (intro (hp : (_ : Bool) = true); ((try simp only [Bool.and_eq_true, Bool.not_eq_true', Bool.not_eq_true] at hp); (try simp only [hp, wte]); (try simp only [whn] at hp)))); ((apply Evl_k 0 rfl; (first | exact Evl_mv _ rfl | exact Evl_as _ rfl))))); (case hT => ((try simp only [wtn, List.append_eq, List.foldl_cons, List.foldl_nil, List.map_cons, List.map_nil, Nat.reduceAdd, Nat.reduceMul, Nat.reduceSub, ↓reduceIte, Nat.reduceEqDiff]); rfl))) | (refine awpL_cons rfl ?_; ((first | (refine Stp_k 13 rfl ?_; ((refine Stp_append _ _ _ _ _ _ _ _ _ _ _ _ _ _ rfl rfl FRow.out (Src.sq rfl) HElem.out (by rw [u8a_len]; omega) (fits _ _ (by omega) (by decide)) (fun ad cap => ?_)))) | (refine Stp_k 17 rfl ?_; ((refine Stp_buildSlice _ _ _ _ _ _ _ _ rfl HElem.out (by first | rfl | fail) rfl (by decide) rfl (fun b => ?_))))); apply awpL_cong; (case hT => ((try simp only [wtn, List.append_eq, List.foldl_cons, List.foldl_nil, List.map_cons, List.map_nil, Nat.reduceAdd, Nat.reduceMul, Nat.reduceSub, ↓reduceIte, Nat.reduceEqDiff]); rfl)); (case hH => ((try simp only [wtn, List.append_eq, List.foldl_cons, List.foldl_nil, List.map_cons, List.map_nil, Nat.reduceAdd, Nat.reduceMul, Nat.reduceSub, ↓reduceIte, Nat.reduceEqDiff]); rfl)))) | fail))
    exact endA_ret _ _ (Res1 rfl (RV.tmp _) (Weak.mk' [_] [] (List.Perm.refl _) VwHs.nil (VwL.cons (Vw.row (List.Mem.head _) (VwL.refl _ _)) VwL.nil))) ⟨rfl, rfl⟩
set_option maxRecDepth 100000 in
set_option maxHeartbeats 8000000 in
theorem decode_nil : Spec Try.prog 11 [] [.sq 0 []] (fun r H' => r = .tup [.agg CF.zero.cells, .x (.int .i64 280)] ∧ H' = []) := by
  unfold CF.zero CF.cells
  refine Spec_of Try.func11 rfl ?_
  simp only [Try.ntmps11, List.length_cons, List.length_nil, List.replicate_succ, List.replicate_zero, List.cons_append, List.nil_append, Nat.reduceAdd, Nat.reduceSub]
  (repeat' (first | with_reducible (first | refine awp_seq ?_ | refine awp_region ?_ | refine awp_ret ?_ | refine awpL_nil ?_ | refine thenA_normal ?_ | refine thenA_ret ?_) | (refine awp_cond _ rfl (fun h => ?_) (fun h => ?_) <;> first | (exact absurd h (by decide)) | ((try (simp only [whn] at h)); skip)) | ((apply awpL_evl2 rfl); (case h => ((try (intro (hp : (_ : Bool) = true); ((try simp only [Bool.and_eq_true, Bool.not_eq_true', Bool.not_eq_true] at hp); (try simp only [hp, wte]); (try simp only [whn] at hp)))); (first | (apply Evl_k 0 rfl; (first | exact Evl_mv _ rfl | exact Evl_as _ rfl)) | (apply Evl_k 3 rfl; (exact Evl_len _ _ _ _ _ _ HEl.out rfl rfl)) | (apply Evl_k 10 rfl; (exact Evl_build1 _ _ _ _ rfl HPl.out (by decide) rfl (by simp [wtb, AV.one, Value.oneCell']))) | (apply Evl_x; (case hs => (intro _ _ h; cases h)); (case hx => rfl); (case hrun => (intro w; simp [wtb, AV.val, go_sem]; (try go_bits); rfl)))))); (case hT => ((try simp only [wtn, List.append_eq, List.foldl_cons, List.foldl_nil, List.map_cons, List.map_nil, Nat.reduceAdd, Nat.reduceMul, Nat.reduceSub, ↓reduceIte, Nat.reduceEqDiff]); rfl))) | (refine awpL_cons rfl ?_; ((first | (refine Stp_k 14 rfl ?_; ((refine Stp_alloc _ _ rfl HZero.out rfl (fun b => ?_)))) | (refine Stp_k 16 rfl ?_; ((refine Stp_store _ _ _ _ _ _ _ rfl rfl FBox.out HSize.out (by first | rfl | fail) (by first | exact Nat.le_of_ble_eq_true rfl | fail) ?_)))); apply awpL_cong; (case hT => ((try simp only [wtn, List.append_eq, List.foldl_cons, List.foldl_nil, List.map_cons, List.map_nil, Nat.reduceAdd, Nat.reduceMul, Nat.reduceSub, ↓reduceIte, Nat.reduceEqDiff]); rfl)); (case hH => ((try simp only [wtn, List.append_eq, List.foldl_cons, List.foldl_nil, List.map_cons, List.map_nil, Nat.reduceAdd, Nat.reduceMul, Nat.reduceSub, ↓reduceIte, Nat.reduceEqDiff]); rfl)))) | fail))
  refine endA_ret _ _ (Res2 rfl (RV.cell 0 rfl rfl HAgg.out (by simp) (by simp)) (RV.tmp _) (Weak.mk' [_] [] (List.Perm.refl _) VwHs.nil (VwL.cons (Vw.aggx (by (repeat' (first | exact VwL.nil | (refine VwL.cons ?_ ?_) | exact Vw.refl _ | exact Vw.nil | fail)))) (VwL.refl _ _)))) ⟨rfl, rfl⟩
theorem rawC_d {x : UInt8} (s : List UInt8) (h : (x.toNat : Int) = 3 ∨ (x.toNat : Int) = 7) : rawC x s = ⟨x.toNat, 0, 0, [], s⟩ := by
  unfold rawC
  rw [if_neg (by omega), if_pos (by omega)]
theorem rawC_n {x : UInt8} (s : List UInt8) (h : ¬(x.toNat : Int) = 1) (h3 : ¬(x.toNat : Int) = 3) (h7 : ¬(x.toNat : Int) = 7) : rawC x s = ⟨x.toNat, 0, 0, s, []⟩ := by
  unfold rawC
  rw [if_neg (by omega), if_neg (by omega)]
theorem okD_n {x : UInt8} (s : List UInt8) (h : ¬(x.toNat : Int) = 1) : okD (x :: s) = propC (rawC x s) := by
  show (decide (x.toNat = 1 → s.length = 4) && propC (rawC x s)) = _
  rw [decide_eq_true (by omega), Bool.true_and]
theorem prop_long_d {k : Int} {s : List UInt8} (h : 4095 < (s.length : Int)) : propC ⟨k, 0, 0, [], s⟩ = false := by
  rw [Bool.eq_false_iff, Ne, propC_len]
  dsimp only
  omega
theorem prop_long_n {k : Int} {s : List UInt8} (h : 32 < (s.length : Int)) : propC ⟨k, 0, 0, s, []⟩ = false := by
  rw [Bool.eq_false_iff, Ne, propC_len]
  dsimp only
  omega
theorem dec_ok {x : UInt8} {s : List UInt8} (h : okD (x :: s) = true) : decC (x :: s) = rawC x s := by show (if okD (x :: s) = true then rawC x s else .zero) = _; rw [if_pos h]
theorem dec_no {x : UInt8} {s : List UInt8} (h : okD (x :: s) = false) : decC (x :: s) = .zero := by show (if okD (x :: s) = true then rawC x s else .zero) = _; rw [if_neg (by rw [h]; decide)]
theorem w64 {n : Int} (h : -9000000000 ≤ n ∧ n ≤ 9000000000) : wrap64 n = n := IntWalk.wrap64_in n (by omega)
theorem or16 (p q : UInt8) : bits BinOp.or IntKind.i64 (wrap64 (wrap64 p.toNat * 256)) (wrap64 q.toNat) = (p.toNat : Int) * 256 + q.toNat := by
  have hp := p.toNat_lt
  have hq := q.toNat_lt
  rw [w64 (n := p.toNat) (by omega), w64 (n := q.toNat) (by omega), w64 (by omega)]
  have e : ((p.toNat : Int) * 256) = ((p.toNat * 256 : Nat) : Int) := by simp
  rw [e]
  show IntKind.i64.wrap (((BitVec.ofInt 64 ((p.toNat * 256 : Nat) : Int) ||| BitVec.ofInt 64 (q.toNat : Int)).toNat : Nat) : Int) = _
  rw [BitVec.ofInt_natCast, BitVec.ofInt_natCast, BitVec.toNat_or, BitVec.toNat_ofNat, BitVec.toNat_ofNat, Nat.mod_eq_of_lt (by omega), Nat.mod_eq_of_lt (by omega), Nat.mul_comm, ← Nat.two_pow_add_eq_or_of_lt (i := 8) (by omega)]
  simp [IntKind.wrap, IntKind.signed, IntKind.bits]
  omega
theorem rawC_1 {x : UInt8} (p q r t : UInt8) (h : (x.toNat : Int) = 1) : rawC x [p, q, r, t] = ⟨x.toNat, (p.toNat : Int) * 256 + q.toNat, (r.toNat : Int) * 256 + t.toNat, [], []⟩ := by
  unfold rawC
  rw [if_pos (by omega), h]
  rfl
theorem okD_1 (x p q r t : UInt8) : okD [x, p, q, r, t] = propC (rawC x [p, q, r, t]) := by
  show (decide (x.toNat = 1 → [p, q, r, t].length = 4) && propC (rawC x [p, q, r, t])) = _
  rw [decide_eq_true (p := x.toNat = 1 → [p, q, r, t].length = 4) (fun _ => rfl), Bool.true_and]
set_option maxRecDepth 100000 in
set_option maxHeartbeats 8000000 in
theorem decode_cons (x : UInt8) (s : List UInt8) (hs : s.length ≤ 100000) : Spec Try.prog 11 [] [.sq (s.length + 1) (.x (.int .u8 (x.toNat : Nat)) :: u8a s)] (fun r H' => r = .tup [.agg (decC (x :: s)).cells, .x (.int .i64 (errC (okD (x :: s))))] ∧ H' = []) := by
  have hx := x.toNat_lt
  have p1 := proper_s ⟨x.toNat, 0, 0, [], s⟩
  have p2 := proper_s ⟨x.toNat, 0, 0, s, []⟩
  unfold CF.cells at p1 p2
  dsimp only at p1 p2
  refine Spec_of Try.func11 rfl ?_
  simp only [Try.ntmps11, List.length_cons, List.length_nil, List.replicate_succ, List.replicate_zero, List.cons_append, List.nil_append, Nat.reduceAdd, Nat.reduceSub]
  (repeat' (first | with_reducible (first | refine awp_seq ?_ | refine awp_region ?_ | refine awp_block ?_ | refine awp_ret ?_ | refine awp_skip ?_ | refine awpL_nil ?_ | refine thenA_normal ?_ | refine thenA_ret ?_ | refine inBlockA_normal ?_ | refine inBlockA_ret ?_) | (refine awp_cond _ rfl (fun h => ?_) (fun h => ?_) <;> ((try (simp only [whn] at h)); first | (exfalso; omega; done) | skip)) | ((apply awpL_evl2 rfl); (case h => ((try (intro (hp : (_ : Bool) = true); ((try simp only [Bool.and_eq_true, Bool.not_eq_true', Bool.not_eq_true] at hp); (try simp only [hp, wte]); (try simp only [whn] at hp)))); (first | (apply Evl_k 0 rfl; (first | exact Evl_mv _ rfl | exact Evl_as _ rfl)) | (apply Evl_k 3 rfl; (exact Evl_len _ _ _ _ _ _ HEl.out rfl rfl)) | (apply Evl_k 5 rfl; (exact Evl_field_x _ _ _ _ _ _ rfl rfl HFld.out)) | (apply Evl_k 6 rfl; (first | exact Evl_load_at _ _ _ _ _ rfl rfl HAgg.out (by first | exact Nat.le_of_ble_eq_true rfl | fail) (by first | exact Nat.le_of_ble_eq_true rfl | fail) | exact Evl_load _ _ _ _ _ _ _ _ rfl rfl FBox.out HAgg.out (by first | exact Nat.le_of_ble_eq_true rfl | fail) (by first | exact Nat.le_of_ble_eq_true rfl | fail))) | (apply Evl_k 7 rfl; (exact Evl_index_sq _ _ _ _ _ _ _ _ 0 _ rfl rfl rfl HEl.out rfl (by omega) (by simp; first | done | fail))) | (apply Evl_k 9 rfl; (exact Evl_slice_rest _ _ _ _ _ _ _ rfl rfl HEl.out rfl)) | (apply Evl_k 10 rfl; (exact Evl_build1 _ _ _ _ rfl HPl.out (by decide) rfl (by simp [wtb, AV.one, Value.oneCell']))) | (apply Evl_k 11 rfl; (first | exact Evl_call 21 Try.f21 _ _ rfl rfl Try.func21 (by decide) rfl (VwL.refl _ _) (clone_s s (by omega)) | exact Evl_call 19 Try.f19 _ _ rfl rfl Try.func19 (by decide) rfl (VwL.cons (Vw.agg (by (repeat' (first | exact VwL.nil | (refine VwL.cons ?_ ?_) | exact Vw.refl _ | fail)))) VwL.nil) (p1) | exact Evl_call 19 Try.f19 _ _ rfl rfl Try.func19 (by decide) rfl (VwL.cons (Vw.aggx (by (repeat' (first | exact VwL.nil | (refine VwL.cons ?_ ?_) | exact Vw.refl _ | exact Vw.nil | fail)))) VwL.nil) (p2))) | (apply Evl_k 12 rfl; (exact Evl_string _ _ 5 _ s rfl (by kernel_rfl) (by kernel_rfl) (by kernel_rfl) (Src.sq rfl))) | (apply Evl_x; (case hs => (intro _ _ h; cases h)); (case hx => rfl); (case hrun => (intro w; simp [wtb, AV.val, go_sem]; (try go_bits); rfl)))))); (case hT => ((try simp (disch := omega) only [wtn, w64, List.append_eq, List.foldl_cons, List.foldl_nil, List.map_cons, List.map_nil, Nat.reduceAdd, Nat.reduceMul, Nat.reduceSub, ↓reduceIte, Nat.reduceEqDiff]); rfl))) | (refine awpL_cons rfl ?_; ((first | (refine Stp_k 14 rfl ?_; ((refine Stp_alloc _ _ rfl HZero.out rfl (fun b => ?_)))) | (refine Stp_k 16 rfl ?_; ((refine Stp_store _ _ _ _ _ _ _ rfl rfl FBox.out HSize.out (by first | rfl | fail) (by first | exact Nat.le_of_ble_eq_true rfl | fail) ?_)))); apply awpL_cong; (case hT => ((try simp (disch := omega) only [wtn, w64, List.append_eq, List.foldl_cons, List.foldl_nil, List.map_cons, List.map_nil, Nat.reduceAdd, Nat.reduceMul, Nat.reduceSub, ↓reduceIte, Nat.reduceEqDiff]); rfl)); (case hH => ((try simp (disch := omega) only [wtn, w64, List.append_eq, List.foldl_cons, List.foldl_nil, List.map_cons, List.map_nil, Nat.reduceAdd, Nat.reduceMul, Nat.reduceSub, ↓reduceIte, Nat.reduceEqDiff]); rfl)))) | fail))
  case h.hK.hK.hK.hK.refine_2.hK.hK.hK.hK.hK.h.h.hK.hK.hK.hK.hK.hK.hK.refine_1.hK.hK.hK.refine_2 =>
    obtain ⟨p, q, r, t, rfl⟩ : ∃ p q r t, s = [p, q, r, t] := by
      match s, h with
      | [p, q, r, t], _ => exact ⟨p, q, r, t, rfl⟩
    simp only [u8a_cons, u8a_nil, List.length_cons, List.length_nil, Nat.zero_add, Nat.reduceAdd]
    refine awp_mix (B := [_, _]) (R := []) mixed [0, 1, 2, 3, 4, 5, 6, 7, 8, 9] [] [10, 11] none [] 2 (List.Perm.refl _) (by decide +kernel) rfl (fun i o h => by cases h) (by decide) ?_
    have p3 := proper_s ⟨x.toNat, (p.toNat : Int) * 256 + q.toNat, (r.toNat : Int) * 256 + t.toNat, [], []⟩
    unfold CF.cells at p3
    dsimp only at p3
    (repeat' (first | (apply dm_quiet rfl rfl; (case h => (intro H1; (try simp only [List.cons_append, List.nil_append]); (first | (apply Evl_k 0 rfl; (exact Evl_mv _ rfl)) | (apply Evl_k 6 rfl; (exact Evl_load_at _ _ _ _ _ rfl rfl HAgg.out (by first | exact Nat.le_of_ble_eq_true rfl | fail) (by first | exact Nat.le_of_ble_eq_true rfl | fail))) | (apply Evl_k 7 rfl; (first | exact Evl_index_sq _ _ _ _ _ _ _ _ 0 _ rfl rfl rfl HEl.out rfl (by omega) (by simp; first | done | fail) | exact Evl_index_sq _ _ _ _ _ _ _ _ 1 _ rfl rfl rfl HEl.out rfl (by omega) (by simp; first | done | fail))) | (apply Evl_x; (case hs => (intro _ _ h; cases h)); (case hx => rfl); (case hrun => (intro w; simp [wtb, AV.val, go_sem]; (try go_bits); rfl)))))); (case hT => ((try simp (disch := omega) only [wtn, or16, List.append_eq, List.foldl_cons, List.foldl_nil, List.map_cons, List.map_nil, Nat.reduceAdd, Nat.reduceMul, Nat.reduceSub, ↓reduceIte, Nat.reduceEqDiff]); rfl))) | fail))
    (first | refine dm_end_none ?_ | fail); (apply awpA_cong; (case hT => ((try simp (disch := first | omega | fail) only [wtn, or16, List.append_eq, List.foldl_cons, List.foldl_nil, List.map_cons, List.map_nil, Nat.reduceAdd, Nat.reduceMul, Nat.reduceSub, ↓reduceIte, Nat.reduceEqDiff]); rfl)); (case hH => (simp only [List.cons_append, List.nil_append]; rfl))); (repeat ((first | refine awpA_1 10 (by decide +kernel) rfl rfl ?_ | refine awpA_1 11 (by decide +kernel) rfl rfl ?_ | fail); (first | (apply Stp_evl; (case h => ((apply Evl_k 5 rfl; (exact Evl_field_x _ _ _ _ _ _ rfl rfl HFld.out)))); (apply awpA_cong; (case hT => ((try simp (disch := omega) only [wtn, or16, List.append_eq, List.foldl_cons, List.foldl_nil, List.map_cons, List.map_nil, Nat.reduceAdd, Nat.reduceMul, Nat.reduceSub, ↓reduceIte, Nat.reduceEqDiff]); rfl)); (case hH => rfl))) | (((refine Stp_k 16 rfl ?_; ((refine Stp_store _ _ _ _ _ _ _ rfl rfl FBox.out HSize.out (by first | rfl | fail) (by first | exact Nat.le_of_ble_eq_true rfl | fail) ?_)))); apply awpA_cong; (case hT => ((try simp (disch := omega) only [wtn, or16, List.append_eq, List.foldl_cons, List.foldl_nil, List.map_cons, List.map_nil, Nat.reduceAdd, Nat.reduceMul, Nat.reduceSub, ↓reduceIte, Nat.reduceEqDiff]); rfl)); (case hH => ((try simp (disch := omega) only [wtn, or16, List.append_eq, List.foldl_cons, List.foldl_nil, List.map_cons, List.map_nil, Nat.reduceAdd, Nat.reduceMul, Nat.reduceSub, ↓reduceIte, Nat.reduceEqDiff]); rfl))) | fail))); refine awpA_done (by decide +kernel) ?_
    (repeat' (first | with_reducible (refine thenA_normal ?_) | fail))
    refine awp_mix (B := [_, _]) (R := []) mixed [0, 1, 2, 3, 4, 5, 6, 7, 8, 9] [] [10, 11] none [] 2 (List.Perm.refl _) (by decide +kernel) rfl (fun i o h => by cases h) (by decide) ?_
    (repeat' (first | (apply dm_quiet rfl rfl; (case h => (intro H1; (try simp only [List.cons_append, List.nil_append]); (first | (apply Evl_k 0 rfl; (exact Evl_mv _ rfl)) | (apply Evl_k 6 rfl; (exact Evl_load_at _ _ _ _ _ rfl rfl HAgg.out (by first | exact Nat.le_of_ble_eq_true rfl | fail) (by first | exact Nat.le_of_ble_eq_true rfl | fail))) | (apply Evl_k 7 rfl; (first | exact Evl_index_sq _ _ _ _ _ _ _ _ 2 _ rfl rfl rfl HEl.out rfl (by omega) (by simp; first | done | fail) | exact Evl_index_sq _ _ _ _ _ _ _ _ 3 _ rfl rfl rfl HEl.out rfl (by omega) (by simp; first | done | fail))) | (apply Evl_x; (case hs => (intro _ _ h; cases h)); (case hx => rfl); (case hrun => (intro w; simp [wtb, AV.val, go_sem]; (try go_bits); rfl)))))); (case hT => ((try simp (disch := omega) only [wtn, or16, List.append_eq, List.foldl_cons, List.foldl_nil, List.map_cons, List.map_nil, Nat.reduceAdd, Nat.reduceMul, Nat.reduceSub, ↓reduceIte, Nat.reduceEqDiff]); rfl))) | fail))
    (first | refine dm_end_none ?_ | fail); (apply awpA_cong; (case hT => ((try simp (disch := first | omega | fail) only [wtn, or16, List.append_eq, List.foldl_cons, List.foldl_nil, List.map_cons, List.map_nil, Nat.reduceAdd, Nat.reduceMul, Nat.reduceSub, ↓reduceIte, Nat.reduceEqDiff]); rfl)); (case hH => (simp only [List.cons_append, List.nil_append]; rfl))); (repeat ((first | refine awpA_1 10 (by decide +kernel) rfl rfl ?_ | refine awpA_1 11 (by decide +kernel) rfl rfl ?_ | fail); (first | (apply Stp_evl; (case h => ((apply Evl_k 5 rfl; (exact Evl_field_x _ _ _ _ _ _ rfl rfl HFld.out)))); (apply awpA_cong; (case hT => ((try simp (disch := omega) only [wtn, or16, List.append_eq, List.foldl_cons, List.foldl_nil, List.map_cons, List.map_nil, Nat.reduceAdd, Nat.reduceMul, Nat.reduceSub, ↓reduceIte, Nat.reduceEqDiff]); rfl)); (case hH => rfl))) | (((refine Stp_k 16 rfl ?_; ((refine Stp_store _ _ _ _ _ _ _ rfl rfl FBox.out HSize.out (by first | rfl | fail) (by first | exact Nat.le_of_ble_eq_true rfl | fail) ?_)))); apply awpA_cong; (case hT => ((try simp (disch := omega) only [wtn, or16, List.append_eq, List.foldl_cons, List.foldl_nil, List.map_cons, List.map_nil, Nat.reduceAdd, Nat.reduceMul, Nat.reduceSub, ↓reduceIte, Nat.reduceEqDiff]); rfl)); (case hH => ((try simp (disch := omega) only [wtn, or16, List.append_eq, List.foldl_cons, List.foldl_nil, List.map_cons, List.map_nil, Nat.reduceAdd, Nat.reduceMul, Nat.reduceSub, ↓reduceIte, Nat.reduceEqDiff]); rfl))) | fail))); refine awpA_done (by decide +kernel) ?_
    (repeat' (first | with_reducible (first | refine awp_seq ?_ | refine awp_region ?_ | refine awp_ret ?_ | refine awp_skip ?_ | refine awpL_nil ?_ | refine thenA_normal ?_ | refine thenA_ret ?_ | refine inBlockA_normal ?_) | (refine awp_cond _ rfl (fun h => ?_) (fun h => ?_) <;> ((try (simp only [whn] at h)); skip)) | ((apply awpL_evl2 rfl); (case h => ((try (intro (hp : (_ : Bool) = true); ((try simp only [Bool.and_eq_true, Bool.not_eq_true', Bool.not_eq_true] at hp); (try simp only [hp, wte]); (try simp only [whn] at hp)))); (first | (apply Evl_k 0 rfl; (exact Evl_as _ rfl)) | (apply Evl_k 6 rfl; (exact Evl_load _ _ _ _ _ _ _ _ rfl rfl FBox.out HAgg.out (by first | exact Nat.le_of_ble_eq_true rfl | fail) (by first | exact Nat.le_of_ble_eq_true rfl | fail))) | (apply Evl_k 10 rfl; (exact Evl_build _ _ _ _ _ rfl HPl.out (by first | rfl | fail) rfl)) | (apply Evl_k 11 rfl; (exact Evl_call 19 Try.f19 _ _ rfl rfl Try.func19 (by decide) rfl (VwL.cons (Vw.aggx (by (repeat' (first | exact VwL.nil | (refine VwL.cons ?_ ?_) | exact Vw.refl _ | exact Vw.nil | fail)))) VwL.nil) (p3))) | (apply Evl_x; (case hs => (intro _ _ h; cases h)); (case hx => rfl); (case hrun => (intro w; simp [wtb, AV.val, go_sem]; (try go_bits); rfl)))))); (case hT => ((try simp only [wtn, List.append_eq, List.foldl_cons, List.foldl_nil, List.map_cons, List.map_nil, Nat.reduceAdd, Nat.reduceMul, Nat.reduceSub, ↓reduceIte, Nat.reduceEqDiff]); rfl))) | (refine awpL_cons rfl ?_; (((refine Stp_k 16 rfl ?_; ((refine Stp_store _ _ _ _ _ _ _ rfl rfl FBox.out HSize.out (by first | rfl | fail) (by first | exact Nat.le_of_ble_eq_true rfl | fail) ?_)))); apply awpL_cong; (case hT => ((try simp only [wtn, List.append_eq, List.foldl_cons, List.foldl_nil, List.map_cons, List.map_nil, Nat.reduceAdd, Nat.reduceMul, Nat.reduceSub, ↓reduceIte, Nat.reduceEqDiff]); rfl)); (case hH => ((try simp only [wtn, List.append_eq, List.foldl_cons, List.foldl_nil, List.map_cons, List.map_nil, Nat.reduceAdd, Nat.reduceMul, Nat.reduceSub, ↓reduceIte, Nat.reduceEqDiff]); rfl)))) | fail))
    · have eo : okD [x, p, q, r, t] = false := by rw [okD_1, rawC_1 _ _ _ _ (by assumption)]; assumption
      rw [dec_no eo, eo]
      unfold CF.zero CF.cells
      exact endA_ret _ _ (Res2 rfl (RV.cell 1 rfl rfl HAgg.out (by simp) (by simp)) (RV.tmp _) (Weak.mk' [_, _] [] (List.Perm.refl _) VwHs.nil (VwL.cons (Vw.aggx (by (repeat' (first | exact VwL.nil | (refine VwL.cons ?_ ?_) | exact Vw.refl _ | exact Vw.nil | fail)))) (VwL.refl _ _)))) ⟨rfl, rfl⟩
    · have eo : okD [x, p, q, r, t] = true := by rw [okD_1, rawC_1 _ _ _ _ (by assumption)]; assumption
      rw [dec_ok eo, eo, rawC_1 _ _ _ _ (by assumption)]
      unfold CF.cells
      exact endA_ret _ _ (Res2 rfl (RV.cell 1 rfl rfl HAgg.out (by simp) (by simp)) (RV.tmp _) (Weak.mk' [_, _] [] (List.Perm.refl _) VwHs.nil (VwL.cons (Vw.aggx (by (repeat' (first | exact VwL.nil | (refine VwL.cons ?_ ?_) | exact Vw.refl _ | exact Vw.nil | fail)))) (VwL.refl _ _)))) ⟨rfl, rfl⟩
  all_goals first
    | (have eo : okD (x :: s) = false := by
         first
           | (rw [okD_n s (by assumption), rawC_d s (by omega)]; first | assumption | exact prop_long_d (by assumption) | fail)
           | (rw [okD_n s (by assumption), rawC_n s (by assumption) (by assumption) (by assumption)]; first | assumption | exact prop_long_n (by assumption) | fail)
           | (show (decide (x.toNat = 1 → s.length = 4) && propC (rawC x s)) = _; rw [decide_eq_false (by omega), Bool.false_and])
       rw [dec_no eo, eo]
       unfold CF.zero CF.cells
       refine endA_ret _ _ (Res2 rfl (RV.cell 1 rfl rfl HAgg.out (by simp) (by simp)) (RV.tmp _) (Weak.mk' [_, _] [] (List.Perm.refl _) VwHs.nil (VwL.cons (Vw.aggx (by (repeat' (first | exact VwL.nil | (refine VwL.cons ?_ ?_) | exact Vw.refl _ | exact Vw.nil | fail)))) (VwL.refl _ _)))) ⟨rfl, rfl⟩)
    | (have eo : okD (x :: s) = true := by rw [okD_n s (by assumption), rawC_d s (by omega)]; assumption
       rw [dec_ok eo, eo, rawC_d s (by omega)]
       unfold CF.cells
       refine endA_ret _ _ (Res2 rfl (RV.cell 1 rfl rfl HAgg.out (by simp) (by simp)) (RV.tmp _) (Weak.mk' [_, _] [] (List.Perm.refl _) VwHs.nil (VwL.cons (Vw.agg (by (repeat' (first | exact VwL.nil | (refine VwL.cons ?_ ?_) | exact Vw.refl _ | fail)))) (VwL.refl _ _)))) ⟨rfl, rfl⟩)
    | (have eo : okD (x :: s) = true := by rw [okD_n s (by assumption), rawC_n s (by assumption) (by assumption) (by assumption)]; assumption
       rw [dec_ok eo, eo, rawC_n s (by assumption) (by assumption) (by assumption)]
       unfold CF.cells
       refine endA_ret _ _ (Res2 rfl (RV.cell 1 rfl rfl HAgg.out (by simp) (by simp)) (RV.tmp _) (Weak.mk' [_, _] [] (List.Perm.refl _) VwHs.nil (VwL.cons (Vw.aggx (by (repeat' (first | exact VwL.nil | (refine VwL.cons ?_ ?_) | exact Vw.refl _ | exact Vw.nil | fail)))) (VwL.refl _ _)))) ⟨rfl, rfl⟩)
    | trace_state
theorem decode_s (b : List UInt8) (hb : b.length ≤ 100000) : Spec Try.prog 11 [] [.sq b.length (u8a b)] (fun r H' => r = .tup [.agg (decC b).cells, .x (.int .i64 (errC (okD b)))] ∧ H' = []) := by
  cases b with
  | nil => exact decode_nil
  | cons x s => exact decode_cons x s (by simp at hb; omega)
end Go.Proofs.Ytfokgdmlecnpbaa
