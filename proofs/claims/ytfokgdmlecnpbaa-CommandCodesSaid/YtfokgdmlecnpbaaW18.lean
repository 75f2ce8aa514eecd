import Derived.Test.YtfokgdmlecnpbaaW17
import Derived.Test.YtfokgdmlecnpbaaW13
import Derived.Test.YtfokgdmlecnpbaaW12
import Derived.Test.YtfokgdmlecnpbaaW16
/- Where the fields of struct values lie. Printed by a small program; each is proved by the kernel. -/
namespace Go.Proofs.Ytfokgdmlecnpbaa
set_option maxRecDepth 100000
instance : HFv Try.prog 7 0 0 false 1 := ⟨by kernel_rfl⟩
instance : HFv Try.prog 7 1 1 false 1 := ⟨by kernel_rfl⟩
instance : HFv Try.prog 7 2 2 false 1 := ⟨by kernel_rfl⟩
instance : HFv Try.prog 7 3 3 false 1 := ⟨by kernel_rfl⟩
instance : HFv Try.prog 8 0 0 false 1 := ⟨by kernel_rfl⟩
instance : HFv Try.prog 8 1 1 false 1 := ⟨by kernel_rfl⟩
instance : HFv Try.prog 8 2 2 false 1 := ⟨by kernel_rfl⟩
instance : HFv Try.prog 8 3 3 false 1 := ⟨by kernel_rfl⟩
instance : HFv Try.prog 13 0 0 false 1 := ⟨by kernel_rfl⟩
instance : HFv Try.prog 13 1 1 false 1 := ⟨by kernel_rfl⟩
instance : HFv Try.prog 14 0 0 false 1 := ⟨by kernel_rfl⟩
instance : HFv Try.prog 14 1 1 false 1 := ⟨by kernel_rfl⟩
instance : HFv Try.prog 18 0 0 false 1 := ⟨by kernel_rfl⟩
instance : HFv Try.prog 19 0 0 false 1 := ⟨by kernel_rfl⟩
instance : HFv Try.prog 24 0 0 false 1 := ⟨by kernel_rfl⟩
instance : HFv Try.prog 24 1 1 false 1 := ⟨by kernel_rfl⟩
instance : HFv Try.prog 24 2 2 false 1 := ⟨by kernel_rfl⟩
instance : HFv Try.prog 24 3 3 false 1 := ⟨by kernel_rfl⟩
instance : HFv Try.prog 24 4 4 false 1 := ⟨by kernel_rfl⟩
instance : HFv Try.prog 25 0 0 false 1 := ⟨by kernel_rfl⟩
instance : HFv Try.prog 25 1 1 false 1 := ⟨by kernel_rfl⟩
instance : HFv Try.prog 25 2 2 false 1 := ⟨by kernel_rfl⟩
instance : HFv Try.prog 25 3 3 false 1 := ⟨by kernel_rfl⟩
instance : HFv Try.prog 25 4 4 false 1 := ⟨by kernel_rfl⟩
instance : HFv Try.prog 44 0 0 false 1 := ⟨by kernel_rfl⟩
instance : HFv Try.prog 44 1 1 false 1 := ⟨by kernel_rfl⟩
instance : HFv Try.prog 45 0 0 false 1 := ⟨by kernel_rfl⟩
instance : HFv Try.prog 45 1 1 false 1 := ⟨by kernel_rfl⟩
instance : HFv Try.prog 56 0 0 false 1 := ⟨by kernel_rfl⟩
instance : HFv Try.prog 56 1 1 false 1 := ⟨by kernel_rfl⟩
instance : HFv Try.prog 56 2 2 false 1 := ⟨by kernel_rfl⟩
instance : HFv Try.prog 57 0 0 false 1 := ⟨by kernel_rfl⟩
instance : HFv Try.prog 57 1 1 false 1 := ⟨by kernel_rfl⟩
instance : HFv Try.prog 57 2 2 false 1 := ⟨by kernel_rfl⟩
instance : HFv Try.prog 64 0 0 false 1 := ⟨by kernel_rfl⟩
instance : HFv Try.prog 64 1 1 false 1 := ⟨by kernel_rfl⟩
instance : HFv Try.prog 64 2 2 false 1 := ⟨by kernel_rfl⟩
instance : HFv Try.prog 64 3 3 false 1 := ⟨by kernel_rfl⟩
instance : HFv Try.prog 64 4 4 false 1 := ⟨by kernel_rfl⟩
instance : HFv Try.prog 64 5 5 false 1 := ⟨by kernel_rfl⟩
instance : HFv Try.prog 64 6 6 false 1 := ⟨by kernel_rfl⟩
instance : HFv Try.prog 64 7 7 false 1 := ⟨by kernel_rfl⟩
instance : HFv Try.prog 64 8 8 false 1 := ⟨by kernel_rfl⟩
instance : HFv Try.prog 64 9 9 false 1 := ⟨by kernel_rfl⟩
instance : HFv Try.prog 64 10 10 false 1 := ⟨by kernel_rfl⟩
instance : HFv Try.prog 64 11 11 false 1 := ⟨by kernel_rfl⟩
instance : HFv Try.prog 64 12 12 false 1 := ⟨by kernel_rfl⟩
instance : HFv Try.prog 64 13 13 false 1 := ⟨by kernel_rfl⟩
instance : HFv Try.prog 64 14 14 false 1 := ⟨by kernel_rfl⟩
instance : HFv Try.prog 65 0 0 false 1 := ⟨by kernel_rfl⟩
instance : HFv Try.prog 65 1 1 false 1 := ⟨by kernel_rfl⟩
instance : HFv Try.prog 65 2 2 false 1 := ⟨by kernel_rfl⟩
instance : HFv Try.prog 65 3 3 false 1 := ⟨by kernel_rfl⟩
instance : HFv Try.prog 65 4 4 false 1 := ⟨by kernel_rfl⟩
instance : HFv Try.prog 65 5 5 false 1 := ⟨by kernel_rfl⟩
instance : HFv Try.prog 65 6 6 false 1 := ⟨by kernel_rfl⟩
instance : HFv Try.prog 65 7 7 false 1 := ⟨by kernel_rfl⟩
instance : HFv Try.prog 65 8 8 false 1 := ⟨by kernel_rfl⟩
instance : HFv Try.prog 65 9 9 false 1 := ⟨by kernel_rfl⟩
instance : HFv Try.prog 65 10 10 false 1 := ⟨by kernel_rfl⟩
instance : HFv Try.prog 65 11 11 false 1 := ⟨by kernel_rfl⟩
instance : HFv Try.prog 65 12 12 false 1 := ⟨by kernel_rfl⟩
instance : HFv Try.prog 65 13 13 false 1 := ⟨by kernel_rfl⟩
instance : HFv Try.prog 65 14 14 false 1 := ⟨by kernel_rfl⟩
instance : HFv Try.prog 72 0 0 false 1 := ⟨by kernel_rfl⟩
instance : HFv Try.prog 72 1 1 false 1 := ⟨by kernel_rfl⟩
instance : HFv Try.prog 72 2 2 true 3 := ⟨by kernel_rfl⟩
instance : HFv Try.prog 72 3 5 false 1 := ⟨by kernel_rfl⟩
instance : HFv Try.prog 73 0 0 false 1 := ⟨by kernel_rfl⟩
instance : HFv Try.prog 73 1 1 false 1 := ⟨by kernel_rfl⟩
instance : HFv Try.prog 73 2 2 true 3 := ⟨by kernel_rfl⟩
instance : HFv Try.prog 73 3 5 false 1 := ⟨by kernel_rfl⟩
instance : HFv Try.prog 74 0 0 false 1 := ⟨by kernel_rfl⟩
instance : HFv Try.prog 74 1 1 false 1 := ⟨by kernel_rfl⟩
instance : HFv Try.prog 74 2 2 false 1 := ⟨by kernel_rfl⟩
instance : HFv Try.prog 74 3 3 false 1 := ⟨by kernel_rfl⟩
instance : HFv Try.prog 75 0 0 false 1 := ⟨by kernel_rfl⟩
instance : HFv Try.prog 75 1 1 false 1 := ⟨by kernel_rfl⟩
instance : HFv Try.prog 75 2 2 false 1 := ⟨by kernel_rfl⟩
instance : HFv Try.prog 75 3 3 false 1 := ⟨by kernel_rfl⟩
instance : HFv Try.prog 78 0 0 false 1 := ⟨by kernel_rfl⟩
instance : HFv Try.prog 78 1 1 false 1 := ⟨by kernel_rfl⟩
instance : HFv Try.prog 79 0 0 false 1 := ⟨by kernel_rfl⟩
instance : HFv Try.prog 79 1 1 false 1 := ⟨by kernel_rfl⟩
instance : HFv Try.prog 81 0 0 false 1 := ⟨by kernel_rfl⟩
instance : HFv Try.prog 81 1 1 false 1 := ⟨by kernel_rfl⟩
instance : HFv Try.prog 82 0 0 false 1 := ⟨by kernel_rfl⟩
instance : HFv Try.prog 82 1 1 false 1 := ⟨by kernel_rfl⟩
instance : HFv Try.prog 112 0 0 false 1 := ⟨by kernel_rfl⟩
instance : HFv Try.prog 112 1 1 false 1 := ⟨by kernel_rfl⟩
instance : HFv Try.prog 112 2 2 false 1 := ⟨by kernel_rfl⟩
instance : HFv Try.prog 112 3 3 false 1 := ⟨by kernel_rfl⟩
instance : HFv Try.prog 113 0 0 false 1 := ⟨by kernel_rfl⟩
instance : HFv Try.prog 113 1 1 false 1 := ⟨by kernel_rfl⟩
instance : HFv Try.prog 113 2 2 false 1 := ⟨by kernel_rfl⟩
instance : HFv Try.prog 113 3 3 false 1 := ⟨by kernel_rfl⟩
instance : HFv Try.prog 115 0 0 true 0 := ⟨by kernel_rfl⟩
instance : HFv Try.prog 116 0 0 true 0 := ⟨by kernel_rfl⟩
instance : HFv Try.prog 124 0 0 false 1 := ⟨by kernel_rfl⟩
instance : HFv Try.prog 124 1 1 false 1 := ⟨by kernel_rfl⟩
instance : HFv Try.prog 124 2 2 false 1 := ⟨by kernel_rfl⟩
instance : HFv Try.prog 124 3 3 false 1 := ⟨by kernel_rfl⟩
instance : HFv Try.prog 124 4 4 false 1 := ⟨by kernel_rfl⟩
instance : HFv Try.prog 124 5 5 false 1 := ⟨by kernel_rfl⟩
instance : HFv Try.prog 124 6 6 false 1 := ⟨by kernel_rfl⟩
instance : HFv Try.prog 124 7 7 false 1 := ⟨by kernel_rfl⟩
instance : HFv Try.prog 124 8 8 false 1 := ⟨by kernel_rfl⟩
instance : HFv Try.prog 124 9 9 false 1 := ⟨by kernel_rfl⟩
instance : HFv Try.prog 124 10 10 false 1 := ⟨by kernel_rfl⟩
instance : HFv Try.prog 125 0 0 false 1 := ⟨by kernel_rfl⟩
instance : HFv Try.prog 125 1 1 false 1 := ⟨by kernel_rfl⟩
instance : HFv Try.prog 125 2 2 false 1 := ⟨by kernel_rfl⟩
instance : HFv Try.prog 125 3 3 false 1 := ⟨by kernel_rfl⟩
instance : HFv Try.prog 125 4 4 false 1 := ⟨by kernel_rfl⟩
instance : HFv Try.prog 125 5 5 false 1 := ⟨by kernel_rfl⟩
instance : HFv Try.prog 125 6 6 false 1 := ⟨by kernel_rfl⟩
instance : HFv Try.prog 125 7 7 false 1 := ⟨by kernel_rfl⟩
instance : HFv Try.prog 125 8 8 false 1 := ⟨by kernel_rfl⟩
instance : HFv Try.prog 125 9 9 false 1 := ⟨by kernel_rfl⟩
instance : HFv Try.prog 125 10 10 false 1 := ⟨by kernel_rfl⟩
end Go.Proofs.Ytfokgdmlecnpbaa
/- Rows of ints, of strings. -/
namespace Go.Proofs.Ytfokgdmlecnpbaa
open Go.RowKit
set_option linter.unusedSimpArgs false
set_option linter.unusedVariables false
theorem take_snoc' {α : Type} (l : List α) (k : Nat) (h : k < l.length) : l.take (k + 1) = l.take k ++ [l[k]] := by
  rw [List.take_succ_eq_append_getElem h]
def sa (l : List (List UInt8)) : List AV := l.map fun s => .x (.string (bs s))
@[simp] theorem sa_len (l : List (List UInt8)) : (sa l).length = l.length := by simp [sa]
theorem sa_drop (l : List (List UInt8)) (k : Nat) (h : k < l.length) : (sa l).drop k = .x (.string (bs l[k])) :: sa (l.drop (k + 1)) := by
  rw [sa, ← List.map_drop, List.drop_eq_getElem_cons h]; rfl
theorem sa_app (l m : List (List UInt8)) : sa (l ++ m) = sa l ++ sa m := by simp [sa]
theorem u8a_one (v : Int) (h0 : 0 ≤ v) (h1 : v < 256) : u8a [UInt8.ofNat v.toNat] = [.x (.int .u8 v)] := by
  have e : (UInt8.ofNat v.toNat).toNat = v.toNat := by
    rw [UInt8.toNat_ofNat']
    exact Nat.mod_eq_of_lt (by omega)
  simp [u8a, u8s, e]
  omega
theorem Src.chr {ρ : Operand → AV} {H : List Hp} {x : Operand} (q : Nat) {ad : Option Addr} {cap : Nat} {e : TypeId} {size : Nat} (v : Int) (h0 : 0 ≤ v) (h1 : v < 256) (hx : ρ x = .x (.slice ad 1 cap)) (hq : H[q]? = some (.row ad 1 cap e size [.x (.int .u8 v)])) :
    Src ρ H x [UInt8.ofNat v.toNat].length (u8a [UInt8.ofNat v.toNat]) := by
  rw [u8a_one v h0 h1]; exact Src.row q hx hq
theorem u8a_app (l m : List UInt8) : u8a (l ++ m) = u8a l ++ u8a m := by simp [u8a, u8s]
theorem u8a_cons (b : UInt8) (l : List UInt8) : u8a (b :: l) = .x (.int .u8 (b.toNat : Nat)) :: u8a l := by simp [u8a, u8s]
theorem u8a_nil : u8a [] = [] := rfl
end Go.Proofs.Ytfokgdmlecnpbaa
/- Bytes of strings in regions that draw. -/
namespace Go.Proofs.Ytfokgdmlecnpbaa
open Go.RowKit
set_option linter.unusedSimpArgs false
set_option linter.unusedVariables false
/-- A byte of a string: it hangs on no memory. -/
theorem WInd_index_str {P : Program} {o : Oper} {ρ : Operand → AV} {H : List Hp} (t : TypeId) (x y : Operand) (k : IntKind) (i : Int) (j : Nat) (l : List UInt8) (ho : o.op = .index t x y) (hx : ρ x = .x (.string (bs l))) (hy : ρ y = .x (.int k i)) (ht : P.underlying t = some .string) (hi : i = (j : Int)) (h1 : j < l.length) : WInd P o ρ H (.x (.int .u8 (l.getD j 0).toNat)) := by
  subst hi
  intro V a w r
  have hg : (bs l)[j]? = some l[j] := by rw [getElem?_pos (bs l) j (by simpa using h1)]; simp
  refine ⟨.int .u8 (l.getD j 0).toNat, fun w' => ?_, by rw [Den]⟩
  have hrun : (Instr.index t (.string (bs l)) (.int k (j : Int))).run P w' = .ok (.int .u8 (l.getD j 0).toNat) w' := by simp [Instr.index, asIntOf, run_underlying ht, hg, h1, List.getD]
  simp [execOp, ho, r.evx (x := x) (by simp [ho, Op.operands]) hx, r.evx (x := y) (by simp [ho, Op.operands]) hy, hrun]
theorem getD_at {α : Type} (s : List α) (k : Nat) (d : α) (h : k < s.length) : s.getD k d = s[k] := by simp [List.getD, h]
theorem getq_at {α : Type} (s : List α) (k : Nat) (d : α) (h : k < s.length) : s[k]?.getD d = s[k] := by simp [h]
end Go.Proofs.Ytfokgdmlecnpbaa
/- A command, whole; what a made one is like. -/
namespace Go.Proofs.Ytfokgdmlecnpbaa
open Go.RowKit
set_option linter.unusedSimpArgs false
set_option linter.unusedVariables false
/-- A command, whole. -/
structure CF where
  kind : Int
  rows : Int
  cols : Int
  name : List UInt8
  data : List UInt8
def CF.cells (c : CF) : List AV := [.x (.int .i64 c.kind), .x (.int .i64 c.rows), .x (.int .i64 c.cols), .x (.string (bs c.name)), .sq c.data.length (u8a c.data)]
/-- What a made command is like. -/
structure Made (c : CF) : Prop where
  kind : 1 ≤ c.kind ∧ c.kind ≤ 9
  size : if c.kind = 1 then (1 ≤ c.rows ∧ c.rows ≤ 8) ∧ 1 ≤ c.cols ∧ c.cols ≤ 24 else c.rows = 0 ∧ c.cols = 0
  name : if c.kind = 2 ∨ c.kind = 4 ∨ c.kind = 5 ∨ c.kind = 6 then c.name.length = 1 else c.name = []
  data : if c.kind = 3 ∨ c.kind = 7 then c.data.length ≤ 3650 else c.data = []
end Go.Proofs.Ytfokgdmlecnpbaa
/- The reference's commands: clean, Same, proper: exact. -/
namespace Go.Proofs.Ytfokgdmlecnpbaa
open Go.RowKit
set_option linter.unusedSimpArgs false
set_option linter.unusedVariables false
def sameC (a d : CF) : Bool := a.kind == d.kind && a.rows == d.rows && a.cols == d.cols && a.name == d.name && a.data == d.data
/-- With the fields of its kind alone. -/
def cleanC (c : CF) : CF := if c.kind = 1 then ⟨c.kind, c.rows, c.cols, [], []⟩ else if c.kind = 2 ∨ c.kind = 4 ∨ c.kind = 5 ∨ c.kind = 6 then ⟨c.kind, 0, 0, c.name, []⟩ else if c.kind = 3 ∨ c.kind = 7 then ⟨c.kind, 0, 0, [], c.data⟩ else ⟨c.kind, 0, 0, [], []⟩
set_option maxRecDepth 100000 in
set_option maxHeartbeats 8000000 in
theorem same28_s (a d : CF) : Spec Try.prog 13 [] [.agg a.cells, .agg d.cells] (fun r H' => r = .x (.bool (sameC a d)) ∧ H' = []) := by
  unfold CF.cells
  refine Spec_of Try.func13 rfl ?_
  simp only [Try.ntmps13, List.length_cons, List.length_nil, List.replicate_succ, List.replicate_zero, List.cons_append, List.nil_append, Nat.reduceAdd, Nat.reduceSub]
  (repeat' (first | with_reducible (first | refine awp_seq ?_ | refine awp_region ?_ | refine awp_ret ?_ | refine awpL_nil ?_ | refine thenA_normal ?_) | ((first | apply awpL_evl2 rfl | apply awpL_g2 _ _ rfl rfl rfl); (case h => ((try (intro (hp : (_ : Bool) = true); ((try simp only [Bool.and_eq_true, Bool.not_eq_true', Bool.not_eq_true] at hp); (try simp only [hp, wte]); (try simp only [whn] at hp)))); (first | (apply Evl_k 0 rfl; (first | exact Evl_mv _ rfl | exact Evl_as _ rfl)) | (apply Evl_k 1 rfl; (exact Evl_and _ _ _ _ _ rfl rfl rfl rfl)) | (apply Evl_k 5 rfl; (exact Evl_field_x _ _ _ _ _ _ rfl rfl HFld.out)) | (apply Evl_k 6 rfl; (exact Evl_load _ _ _ _ _ _ _ _ rfl rfl FBox.out HAgg.out (by first | exact Nat.le_of_ble_eq_true rfl | fail) (by first | exact Nat.le_of_ble_eq_true rfl | fail))) | (apply Evl_k 12 rfl; (first | exact Evl_string _ _ 5 _ a.data rfl (by kernel_rfl) (by kernel_rfl) (by kernel_rfl) (Src.sq rfl) | exact Evl_string _ _ 5 _ d.data rfl (by kernel_rfl) (by kernel_rfl) (by kernel_rfl) (Src.sq rfl))) | (apply Evl_x; (case hs => (intro _ _ h; cases h)); (case hx => rfl); (case hrun => (intro w; simp [wtb, AV.val, go_sem]; (try go_bits); rfl)))))); (case hT => ((try simp only [wtn, List.append_eq, List.foldl_cons, List.foldl_nil, List.map_cons, List.map_nil, Nat.reduceAdd, Nat.reduceMul, Nat.reduceSub, ↓reduceIte, Nat.reduceEqDiff]); rfl))) | (refine awpL_cons rfl ?_; (((refine Stp_k 15 rfl ?_; ((refine Stp_box _ _ rfl (by first | rfl | fail) (fun b => ?_))))); apply awpL_cong; (case hT => ((try simp only [wtn, List.append_eq, List.foldl_cons, List.foldl_nil, List.map_cons, List.map_nil, Nat.reduceAdd, Nat.reduceMul, Nat.reduceSub, ↓reduceIte, Nat.reduceEqDiff]); rfl)); (case hH => ((try simp only [wtn, List.append_eq, List.foldl_cons, List.foldl_nil, List.map_cons, List.map_nil, Nat.reduceAdd, Nat.reduceMul, Nat.reduceSub, ↓reduceIte, Nat.reduceEqDiff]); rfl)))) | fail))
  refine endA_ret _ _ (Res1 rfl (RV.tmp _) (Weak.mk' [_, _] [] (List.Perm.refl _) (VwHs.refl _ _) (by first | exact VwL.refl _ _ | fail))) ?_
  exact ⟨rfl, rfl⟩
set_option maxRecDepth 100000 in
set_option maxHeartbeats 8000000 in
theorem clean28_s (a : CF) : Spec Try.prog 25 [] [.agg a.cells] (fun r H' => r = .agg (cleanC a).cells ∧ H' = []) := by
  unfold CF.cells
  refine Spec_of Try.func25 rfl ?_
  simp only [Try.ntmps25, List.length_cons, List.length_nil, List.replicate_succ, List.replicate_zero, List.cons_append, List.nil_append, Nat.reduceAdd, Nat.reduceSub]
  (repeat' (first | with_reducible (first | refine awp_seq ?_ | refine awp_region ?_ | refine awp_block ?_ | refine awp_ret ?_ | refine awp_skip ?_ | refine awpL_nil ?_ | refine thenA_normal ?_ | refine inBlockA_normal ?_) | (refine awp_cond _ rfl (fun h => ?_) (fun h => ?_) <;> ((try (simp only [whn] at h)); first | (exfalso; omega; done) | skip)) | ((apply awpL_evl2 rfl); (case h => ((try (intro (hp : (_ : Bool) = true); ((try simp only [Bool.and_eq_true, Bool.not_eq_true', Bool.not_eq_true] at hp); (try simp only [hp, wte]); (try simp only [whn] at hp)))); (first | (apply Evl_k 0 rfl; (exact Evl_as _ rfl)) | (apply Evl_k 5 rfl; (exact Evl_field_x _ _ _ _ _ _ rfl rfl HFld.out)) | (apply Evl_k 6 rfl; (exact Evl_load _ _ _ _ _ _ _ _ rfl rfl FBox.out HAgg.out (by first | exact Nat.le_of_ble_eq_true rfl | fail) (by first | exact Nat.le_of_ble_eq_true rfl | fail))) | (apply Evl_k 10 rfl; (exact Evl_build1 _ _ _ _ rfl HPl.out (by decide) rfl (by simp [wtb, AV.one, Value.oneCell']))) | (apply Evl_x; (case hs => (intro _ _ h; cases h)); (case hx => rfl); (case hrun => (intro w; simp [wtb, AV.val, go_sem]; (try go_bits); rfl)))))); (case hT => ((try simp only [wtn, List.append_eq, List.foldl_cons, List.foldl_nil, List.map_cons, List.map_nil, Nat.reduceAdd, Nat.reduceMul, Nat.reduceSub, ↓reduceIte, Nat.reduceEqDiff]); rfl))) | (refine awpL_cons rfl ?_; ((first | (refine Stp_k 14 rfl ?_; ((refine Stp_alloc _ _ rfl HZero.out rfl (fun b => ?_)))) | (refine Stp_k 15 rfl ?_; ((refine Stp_box _ _ rfl (by first | rfl | fail) (fun b => ?_)))) | (refine Stp_k 16 rfl ?_; ((refine Stp_store _ _ _ _ _ _ _ rfl rfl FBox.out HSize.out (by first | rfl | fail) (by first | exact Nat.le_of_ble_eq_true rfl | fail) ?_)))); apply awpL_cong; (case hT => ((try simp only [wtn, List.append_eq, List.foldl_cons, List.foldl_nil, List.map_cons, List.map_nil, Nat.reduceAdd, Nat.reduceMul, Nat.reduceSub, ↓reduceIte, Nat.reduceEqDiff]); rfl)); (case hH => ((try simp only [wtn, List.append_eq, List.foldl_cons, List.foldl_nil, List.map_cons, List.map_nil, Nat.reduceAdd, Nat.reduceMul, Nat.reduceSub, ↓reduceIte, Nat.reduceEqDiff]); rfl)))) | fail))
  case' h.h.hK.hK.hK.h.h.hK.hK.hK.hK.refine_1 =>
    refine awpP_drawn mixed [] [_] [_, _] (List.perm_append_comm (l₁ := [_, _]) (l₂ := [_])) ?_
    (first | (apply awpP_take 0 rfl rfl (by kernel_rfl) (by intro c T H hp; simp [thenA, inBlockA, jumpA, endA] at hp); (case h => (exact WInd_field_x _ _ _ _ _ _ rfl rfl HFld.out))) | fail); (apply awpP_cong; (case hT => ((try simp only [wtn, List.append_eq, List.foldl_cons, List.foldl_nil, List.map_cons, List.map_nil, Nat.reduceAdd, Nat.reduceMul, Nat.reduceSub, ↓reduceIte, Nat.reduceEqDiff]); rfl)); (case hH => rfl)); (first | refine awpP_load 1 rfl rfl (by kernel_rfl) (by intro c T H hp; simp [thenA, inBlockA, jumpA, endA] at hp) _ _ _ _ _ _ _ _ rfl rfl FBox.out HAgg.out (by first | exact Nat.le_of_ble_eq_true rfl | fail) (by first | exact Nat.le_of_ble_eq_true rfl | fail) ?_ | fail); (apply awpP_cong; (case hT => ((try simp only [wtn, List.append_eq, List.foldl_cons, List.foldl_nil, List.map_cons, List.map_nil, Nat.reduceAdd, Nat.reduceMul, Nat.reduceSub, ↓reduceIte, Nat.reduceEqDiff]); rfl)); (case hH => rfl)); (first | (apply awpP_take 2 rfl rfl (by kernel_rfl) (by intro c T H hp; simp [thenA, inBlockA, jumpA, endA] at hp); (case h => (exact WInd_field_x _ _ _ _ _ _ rfl rfl HFld.out))) | fail); (apply awpP_cong; (case hT => ((try simp only [wtn, List.append_eq, List.foldl_cons, List.foldl_nil, List.map_cons, List.map_nil, Nat.reduceAdd, Nat.reduceMul, Nat.reduceSub, ↓reduceIte, Nat.reduceEqDiff]); rfl)); (case hH => rfl)); (first | refine awpP_load 3 rfl rfl (by kernel_rfl) (by intro c T H hp; simp [thenA, inBlockA, jumpA, endA] at hp) _ _ _ _ _ _ _ _ rfl rfl FBox.out HAgg.out (by first | exact Nat.le_of_ble_eq_true rfl | fail) (by first | exact Nat.le_of_ble_eq_true rfl | fail) ?_ | fail); (apply awpP_cong; (case hT => ((try simp only [wtn, List.append_eq, List.foldl_cons, List.foldl_nil, List.map_cons, List.map_nil, Nat.reduceAdd, Nat.reduceMul, Nat.reduceSub, ↓reduceIte, Nat.reduceEqDiff]); rfl)); (case hH => rfl)); (first | (apply awpP_take 4 rfl rfl (by kernel_rfl) (by intro c T H hp; simp [thenA, inBlockA, jumpA, endA] at hp); (case h => (exact WInd_field_x _ _ _ _ _ _ rfl rfl HFld.out))) | fail); (apply awpP_cong; (case hT => ((try simp only [wtn, List.append_eq, List.foldl_cons, List.foldl_nil, List.map_cons, List.map_nil, Nat.reduceAdd, Nat.reduceMul, Nat.reduceSub, ↓reduceIte, Nat.reduceEqDiff]); rfl)); (case hH => rfl))
    (repeat ((first | refine awpP_1 5 (by decide +kernel) rfl rfl ?_ | refine awpP_1 6 (by decide +kernel) rfl rfl ?_ | refine awpP_1 7 (by decide +kernel) rfl rfl ?_ | fail); (first | (apply Stp_evl; (case h => ((apply Evl_k 5 rfl; (exact Evl_field_x _ _ _ _ _ _ rfl rfl HFld.out)))); (apply awpP_cong; (case hT => ((try simp only [wtn, List.append_eq, List.foldl_cons, List.foldl_nil, List.map_cons, List.map_nil, Nat.reduceAdd, Nat.reduceMul, Nat.reduceSub, ↓reduceIte, Nat.reduceEqDiff]); rfl)); (case hH => rfl))) | (((refine Stp_k 16 rfl ?_; ((refine Stp_store _ _ _ _ _ _ _ rfl rfl FBox.out HSize.out (by first | rfl | fail) (by first | exact Nat.le_of_ble_eq_true rfl | fail) ?_)))); apply awpP_cong; (case hT => ((try simp only [wtn, List.append_eq, List.foldl_cons, List.foldl_nil, List.map_cons, List.map_nil, Nat.reduceAdd, Nat.reduceMul, Nat.reduceSub, ↓reduceIte, Nat.reduceEqDiff]); rfl)); (case hH => ((try simp only [wtn, List.append_eq, List.foldl_cons, List.foldl_nil, List.map_cons, List.map_nil, Nat.reduceAdd, Nat.reduceMul, Nat.reduceSub, ↓reduceIte, Nat.reduceEqDiff]); rfl))) | fail)))
    refine awpP_rest (by decide +kernel) ?_
    refine awpA_cong rfl (by simp only [List.cons_append, List.nil_append]; rfl) ?_
    refine awpA_done (by decide +kernel) ?_
    (repeat' (first | with_reducible (first | refine awp_seq ?_ | refine awp_region ?_ | refine awp_ret ?_ | refine awpL_nil ?_ | refine thenA_normal ?_ | refine inBlockA_normal ?_) | ((apply awpL_evl2 rfl); (case h => ((try (intro (hp : (_ : Bool) = true); ((try simp only [Bool.and_eq_true, Bool.not_eq_true', Bool.not_eq_true] at hp); (try simp only [hp, wte]); (try simp only [whn] at hp)))); ((apply Evl_k 6 rfl; (exact Evl_load _ _ _ _ _ _ _ _ rfl rfl FBox.out HAgg.out (by first | exact Nat.le_of_ble_eq_true rfl | fail) (by first | exact Nat.le_of_ble_eq_true rfl | fail)))))); (case hT => ((try simp only [wtn, List.append_eq, List.foldl_cons, List.foldl_nil, List.map_cons, List.map_nil, Nat.reduceAdd, Nat.reduceMul, Nat.reduceSub, ↓reduceIte, Nat.reduceEqDiff]); rfl))) | (refine awpL_cons rfl ?_; (((refine Stp_k 16 rfl ?_; ((refine Stp_store _ _ _ _ _ _ _ rfl rfl FBox.out HSize.out (by first | rfl | fail) (by first | exact Nat.le_of_ble_eq_true rfl | fail) ?_)))); apply awpL_cong; (case hT => ((try simp only [wtn, List.append_eq, List.foldl_cons, List.foldl_nil, List.map_cons, List.map_nil, Nat.reduceAdd, Nat.reduceMul, Nat.reduceSub, ↓reduceIte, Nat.reduceEqDiff]); rfl)); (case hH => ((try simp only [wtn, List.append_eq, List.foldl_cons, List.foldl_nil, List.map_cons, List.map_nil, Nat.reduceAdd, Nat.reduceMul, Nat.reduceSub, ↓reduceIte, Nat.reduceEqDiff]); rfl)))) | fail))
  all_goals first
    | (have e : cleanC a = ⟨a.kind, a.rows, a.cols, [], []⟩ := by unfold cleanC; (repeat' split) <;> first | rfl | (exfalso; omega) | fail
       rw [e]
       exact endA_ret _ _ (Res1 rfl (RV.cell 2 rfl rfl HAgg.out (by simp) (by simp)) (Weak.mk' [_, _, _] [] (List.Perm.refl _) VwHs.nil (VwL.cons (Vw.aggx (by (repeat' (first | exact VwL.nil | (refine VwL.cons ?_ ?_) | exact Vw.refl _ | exact Vw.nil | fail)))) VwL.nil))) ⟨rfl, rfl⟩)
    | (have e : cleanC a = ⟨a.kind, 0, 0, a.name, []⟩ := by unfold cleanC; (repeat' split) <;> first | rfl | (exfalso; omega) | fail
       rw [e]
       exact endA_ret _ _ (Res1 rfl (RV.cell 1 rfl rfl HAgg.out (by simp) (by simp)) (Weak.mk' [_, _, _] [] (List.Perm.refl _) VwHs.nil (VwL.cons (Vw.aggx (by (repeat' (first | exact VwL.nil | (refine VwL.cons ?_ ?_) | exact Vw.refl _ | exact Vw.nil | fail)))) VwL.nil))) ⟨rfl, rfl⟩)
    | (have e : cleanC a = ⟨a.kind, 0, 0, [], a.data⟩ := by unfold cleanC; (repeat' split) <;> first | rfl | (exfalso; omega) | fail
       rw [e]
       exact endA_ret _ _ (Res1 rfl (RV.cell 1 rfl rfl HAgg.out (by simp) (by simp)) (Weak.mk' [_, _, _] [] (List.Perm.refl _) VwHs.nil (VwL.cons (Vw.agg (by (repeat' (first | exact VwL.nil | (refine VwL.cons ?_ ?_) | exact Vw.refl _ | fail)))) VwL.nil))) ⟨rfl, rfl⟩)
    | (have e : cleanC a = ⟨a.kind, 0, 0, [], []⟩ := by unfold cleanC; (repeat' split) <;> first | rfl | (exfalso; omega) | fail
       rw [e]
       exact endA_ret _ _ (Res1 rfl (RV.cell 1 rfl rfl HAgg.out (by simp) (by simp)) (Weak.mk' [_, _, _] [] (List.Perm.refl _) VwHs.nil (VwL.cons (Vw.aggx (by (repeat' (first | exact VwL.nil | (refine VwL.cons ?_ ?_) | exact Vw.refl _ | exact Vw.nil | fail)))) VwL.nil))) ⟨rfl, rfl⟩)
    | trace_state
end Go.Proofs.Ytfokgdmlecnpbaa
