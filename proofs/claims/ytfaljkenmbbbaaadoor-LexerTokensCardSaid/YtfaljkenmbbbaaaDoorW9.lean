import Derived.Test.YtfaljkenmbbbaaaDoorW8
import Derived.Test.YtfaljkenmbbbaaaDoorW6
import Derived.Test.YtfaljkenmbbbaaaDoorW0
import Derived.Test.YtfaljkenmbbbaaaDoorW7
/- Where the fields of struct values lie. Printed by a small program; each is proved by the kernel. -/
namespace Go.Proofs.YtfaljkenmbbbaaaDoor
set_option maxRecDepth 100000
instance : HFv Tryd.prog 7 0 0 false 1 := ⟨by kernel_rfl⟩
instance : HFv Tryd.prog 7 1 1 false 1 := ⟨by kernel_rfl⟩
instance : HFv Tryd.prog 7 2 2 false 1 := ⟨by kernel_rfl⟩
instance : HFv Tryd.prog 7 3 3 false 1 := ⟨by kernel_rfl⟩
instance : HFv Tryd.prog 8 0 0 false 1 := ⟨by kernel_rfl⟩
instance : HFv Tryd.prog 8 1 1 false 1 := ⟨by kernel_rfl⟩
instance : HFv Tryd.prog 8 2 2 false 1 := ⟨by kernel_rfl⟩
instance : HFv Tryd.prog 8 3 3 false 1 := ⟨by kernel_rfl⟩
instance : HFv Tryd.prog 13 0 0 false 1 := ⟨by kernel_rfl⟩
instance : HFv Tryd.prog 13 1 1 false 1 := ⟨by kernel_rfl⟩
instance : HFv Tryd.prog 14 0 0 false 1 := ⟨by kernel_rfl⟩
instance : HFv Tryd.prog 14 1 1 false 1 := ⟨by kernel_rfl⟩
instance : HFv Tryd.prog 18 0 0 false 1 := ⟨by kernel_rfl⟩
instance : HFv Tryd.prog 19 0 0 false 1 := ⟨by kernel_rfl⟩
instance : HFv Tryd.prog 31 0 0 false 1 := ⟨by kernel_rfl⟩
instance : HFv Tryd.prog 31 1 1 false 1 := ⟨by kernel_rfl⟩
instance : HFv Tryd.prog 31 2 2 false 1 := ⟨by kernel_rfl⟩
instance : HFv Tryd.prog 32 0 0 false 1 := ⟨by kernel_rfl⟩
instance : HFv Tryd.prog 32 1 1 false 1 := ⟨by kernel_rfl⟩
instance : HFv Tryd.prog 32 2 2 false 1 := ⟨by kernel_rfl⟩
instance : HFv Tryd.prog 42 0 0 false 1 := ⟨by kernel_rfl⟩
instance : HFv Tryd.prog 42 1 1 false 1 := ⟨by kernel_rfl⟩
instance : HFv Tryd.prog 42 2 2 false 1 := ⟨by kernel_rfl⟩
instance : HFv Tryd.prog 42 3 3 false 1 := ⟨by kernel_rfl⟩
instance : HFv Tryd.prog 43 0 0 false 1 := ⟨by kernel_rfl⟩
instance : HFv Tryd.prog 43 1 1 false 1 := ⟨by kernel_rfl⟩
instance : HFv Tryd.prog 43 2 2 false 1 := ⟨by kernel_rfl⟩
instance : HFv Tryd.prog 43 3 3 false 1 := ⟨by kernel_rfl⟩
instance : HFv Tryd.prog 48 0 0 false 1 := ⟨by kernel_rfl⟩
instance : HFv Tryd.prog 48 1 1 false 1 := ⟨by kernel_rfl⟩
instance : HFv Tryd.prog 49 0 0 false 1 := ⟨by kernel_rfl⟩
instance : HFv Tryd.prog 49 1 1 false 1 := ⟨by kernel_rfl⟩
instance : HFv Tryd.prog 64 0 0 false 1 := ⟨by kernel_rfl⟩
instance : HFv Tryd.prog 64 1 1 false 1 := ⟨by kernel_rfl⟩
instance : HFv Tryd.prog 64 2 2 false 1 := ⟨by kernel_rfl⟩
instance : HFv Tryd.prog 65 0 0 false 1 := ⟨by kernel_rfl⟩
instance : HFv Tryd.prog 65 1 1 false 1 := ⟨by kernel_rfl⟩
instance : HFv Tryd.prog 65 2 2 false 1 := ⟨by kernel_rfl⟩
instance : HFv Tryd.prog 72 0 0 false 1 := ⟨by kernel_rfl⟩
instance : HFv Tryd.prog 72 1 1 false 1 := ⟨by kernel_rfl⟩
instance : HFv Tryd.prog 73 0 0 false 1 := ⟨by kernel_rfl⟩
instance : HFv Tryd.prog 73 1 1 false 1 := ⟨by kernel_rfl⟩
instance : HFv Tryd.prog 85 0 0 false 1 := ⟨by kernel_rfl⟩
instance : HFv Tryd.prog 85 1 1 false 1 := ⟨by kernel_rfl⟩
instance : HFv Tryd.prog 85 2 2 false 1 := ⟨by kernel_rfl⟩
instance : HFv Tryd.prog 85 3 3 false 1 := ⟨by kernel_rfl⟩
instance : HFv Tryd.prog 85 4 4 false 1 := ⟨by kernel_rfl⟩
instance : HFv Tryd.prog 85 5 5 false 1 := ⟨by kernel_rfl⟩
instance : HFv Tryd.prog 85 6 6 false 1 := ⟨by kernel_rfl⟩
instance : HFv Tryd.prog 85 7 7 false 1 := ⟨by kernel_rfl⟩
instance : HFv Tryd.prog 85 8 8 false 1 := ⟨by kernel_rfl⟩
instance : HFv Tryd.prog 85 9 9 false 1 := ⟨by kernel_rfl⟩
instance : HFv Tryd.prog 85 10 10 false 1 := ⟨by kernel_rfl⟩
instance : HFv Tryd.prog 85 11 11 false 1 := ⟨by kernel_rfl⟩
instance : HFv Tryd.prog 85 12 12 false 1 := ⟨by kernel_rfl⟩
instance : HFv Tryd.prog 85 13 13 false 1 := ⟨by kernel_rfl⟩
instance : HFv Tryd.prog 85 14 14 false 1 := ⟨by kernel_rfl⟩
instance : HFv Tryd.prog 86 0 0 false 1 := ⟨by kernel_rfl⟩
instance : HFv Tryd.prog 86 1 1 false 1 := ⟨by kernel_rfl⟩
instance : HFv Tryd.prog 86 2 2 false 1 := ⟨by kernel_rfl⟩
instance : HFv Tryd.prog 86 3 3 false 1 := ⟨by kernel_rfl⟩
instance : HFv Tryd.prog 86 4 4 false 1 := ⟨by kernel_rfl⟩
instance : HFv Tryd.prog 86 5 5 false 1 := ⟨by kernel_rfl⟩
instance : HFv Tryd.prog 86 6 6 false 1 := ⟨by kernel_rfl⟩
instance : HFv Tryd.prog 86 7 7 false 1 := ⟨by kernel_rfl⟩
instance : HFv Tryd.prog 86 8 8 false 1 := ⟨by kernel_rfl⟩
instance : HFv Tryd.prog 86 9 9 false 1 := ⟨by kernel_rfl⟩
instance : HFv Tryd.prog 86 10 10 false 1 := ⟨by kernel_rfl⟩
instance : HFv Tryd.prog 86 11 11 false 1 := ⟨by kernel_rfl⟩
instance : HFv Tryd.prog 86 12 12 false 1 := ⟨by kernel_rfl⟩
instance : HFv Tryd.prog 86 13 13 false 1 := ⟨by kernel_rfl⟩
instance : HFv Tryd.prog 86 14 14 false 1 := ⟨by kernel_rfl⟩
instance : HFv Tryd.prog 89 0 0 false 1 := ⟨by kernel_rfl⟩
instance : HFv Tryd.prog 89 1 1 false 1 := ⟨by kernel_rfl⟩
instance : HFv Tryd.prog 89 2 2 false 1 := ⟨by kernel_rfl⟩
instance : HFv Tryd.prog 89 3 3 false 1 := ⟨by kernel_rfl⟩
instance : HFv Tryd.prog 90 0 0 false 1 := ⟨by kernel_rfl⟩
instance : HFv Tryd.prog 90 1 1 false 1 := ⟨by kernel_rfl⟩
instance : HFv Tryd.prog 90 2 2 false 1 := ⟨by kernel_rfl⟩
instance : HFv Tryd.prog 90 3 3 false 1 := ⟨by kernel_rfl⟩
instance : HFv Tryd.prog 96 0 0 false 1 := ⟨by kernel_rfl⟩
instance : HFv Tryd.prog 96 1 1 false 1 := ⟨by kernel_rfl⟩
instance : HFv Tryd.prog 96 2 2 false 1 := ⟨by kernel_rfl⟩
instance : HFv Tryd.prog 97 0 0 false 1 := ⟨by kernel_rfl⟩
instance : HFv Tryd.prog 97 1 1 false 1 := ⟨by kernel_rfl⟩
instance : HFv Tryd.prog 97 2 2 false 1 := ⟨by kernel_rfl⟩
instance : HFv Tryd.prog 113 0 0 false 1 := ⟨by kernel_rfl⟩
instance : HFv Tryd.prog 113 1 1 false 1 := ⟨by kernel_rfl⟩
instance : HFv Tryd.prog 113 2 2 true 3 := ⟨by kernel_rfl⟩
instance : HFv Tryd.prog 113 3 5 false 1 := ⟨by kernel_rfl⟩
instance : HFv Tryd.prog 114 0 0 false 1 := ⟨by kernel_rfl⟩
instance : HFv Tryd.prog 114 1 1 false 1 := ⟨by kernel_rfl⟩
instance : HFv Tryd.prog 114 2 2 true 3 := ⟨by kernel_rfl⟩
instance : HFv Tryd.prog 114 3 5 false 1 := ⟨by kernel_rfl⟩
instance : HFv Tryd.prog 117 0 0 false 1 := ⟨by kernel_rfl⟩
instance : HFv Tryd.prog 117 1 1 false 1 := ⟨by kernel_rfl⟩
instance : HFv Tryd.prog 118 0 0 false 1 := ⟨by kernel_rfl⟩
instance : HFv Tryd.prog 118 1 1 false 1 := ⟨by kernel_rfl⟩
instance : HFv Tryd.prog 120 0 0 false 1 := ⟨by kernel_rfl⟩
instance : HFv Tryd.prog 120 1 1 false 1 := ⟨by kernel_rfl⟩
instance : HFv Tryd.prog 121 0 0 false 1 := ⟨by kernel_rfl⟩
instance : HFv Tryd.prog 121 1 1 false 1 := ⟨by kernel_rfl⟩
instance : HFv Tryd.prog 126 0 0 false 1 := ⟨by kernel_rfl⟩
instance : HFv Tryd.prog 127 0 0 false 1 := ⟨by kernel_rfl⟩
instance : HFv Tryd.prog 159 0 0 false 1 := ⟨by kernel_rfl⟩
instance : HFv Tryd.prog 159 1 1 false 1 := ⟨by kernel_rfl⟩
instance : HFv Tryd.prog 159 2 2 false 1 := ⟨by kernel_rfl⟩
instance : HFv Tryd.prog 159 3 3 false 1 := ⟨by kernel_rfl⟩
instance : HFv Tryd.prog 160 0 0 false 1 := ⟨by kernel_rfl⟩
instance : HFv Tryd.prog 160 1 1 false 1 := ⟨by kernel_rfl⟩
instance : HFv Tryd.prog 160 2 2 false 1 := ⟨by kernel_rfl⟩
instance : HFv Tryd.prog 160 3 3 false 1 := ⟨by kernel_rfl⟩
instance : HFv Tryd.prog 162 0 0 true 0 := ⟨by kernel_rfl⟩
instance : HFv Tryd.prog 163 0 0 true 0 := ⟨by kernel_rfl⟩
instance : HFv Tryd.prog 170 0 0 false 1 := ⟨by kernel_rfl⟩
instance : HFv Tryd.prog 170 1 1 false 1 := ⟨by kernel_rfl⟩
instance : HFv Tryd.prog 170 2 2 false 1 := ⟨by kernel_rfl⟩
instance : HFv Tryd.prog 170 3 3 false 1 := ⟨by kernel_rfl⟩
instance : HFv Tryd.prog 170 4 4 false 1 := ⟨by kernel_rfl⟩
instance : HFv Tryd.prog 170 5 5 false 1 := ⟨by kernel_rfl⟩
instance : HFv Tryd.prog 170 6 6 false 1 := ⟨by kernel_rfl⟩
instance : HFv Tryd.prog 170 7 7 false 1 := ⟨by kernel_rfl⟩
instance : HFv Tryd.prog 170 8 8 false 1 := ⟨by kernel_rfl⟩
instance : HFv Tryd.prog 170 9 9 false 1 := ⟨by kernel_rfl⟩
instance : HFv Tryd.prog 170 10 10 false 1 := ⟨by kernel_rfl⟩
instance : HFv Tryd.prog 171 0 0 false 1 := ⟨by kernel_rfl⟩
instance : HFv Tryd.prog 171 1 1 false 1 := ⟨by kernel_rfl⟩
instance : HFv Tryd.prog 171 2 2 false 1 := ⟨by kernel_rfl⟩
instance : HFv Tryd.prog 171 3 3 false 1 := ⟨by kernel_rfl⟩
instance : HFv Tryd.prog 171 4 4 false 1 := ⟨by kernel_rfl⟩
instance : HFv Tryd.prog 171 5 5 false 1 := ⟨by kernel_rfl⟩
instance : HFv Tryd.prog 171 6 6 false 1 := ⟨by kernel_rfl⟩
instance : HFv Tryd.prog 171 7 7 false 1 := ⟨by kernel_rfl⟩
instance : HFv Tryd.prog 171 8 8 false 1 := ⟨by kernel_rfl⟩
instance : HFv Tryd.prog 171 9 9 false 1 := ⟨by kernel_rfl⟩
instance : HFv Tryd.prog 171 10 10 false 1 := ⟨by kernel_rfl⟩
instance : HFv Tryd.prog 174 0 0 false 1 := ⟨by kernel_rfl⟩
instance : HFv Tryd.prog 174 1 1 false 1 := ⟨by kernel_rfl⟩
instance : HFv Tryd.prog 175 0 0 false 1 := ⟨by kernel_rfl⟩
instance : HFv Tryd.prog 175 1 1 false 1 := ⟨by kernel_rfl⟩
instance : HFv Tryd.prog 179 0 0 false 1 := ⟨by kernel_rfl⟩
instance : HFv Tryd.prog 179 1 1 false 1 := ⟨by kernel_rfl⟩
instance : HFv Tryd.prog 179 2 2 false 1 := ⟨by kernel_rfl⟩
instance : HFv Tryd.prog 179 3 3 false 1 := ⟨by kernel_rfl⟩
instance : HFv Tryd.prog 179 4 4 false 1 := ⟨by kernel_rfl⟩
instance : HFv Tryd.prog 180 0 0 false 1 := ⟨by kernel_rfl⟩
instance : HFv Tryd.prog 180 1 1 false 1 := ⟨by kernel_rfl⟩
instance : HFv Tryd.prog 180 2 2 false 1 := ⟨by kernel_rfl⟩
instance : HFv Tryd.prog 180 3 3 false 1 := ⟨by kernel_rfl⟩
instance : HFv Tryd.prog 180 4 4 false 1 := ⟨by kernel_rfl⟩
instance : HFv Tryd.prog 183 0 0 false 1 := ⟨by kernel_rfl⟩
instance : HFv Tryd.prog 183 1 1 false 1 := ⟨by kernel_rfl⟩
instance : HFv Tryd.prog 183 2 2 false 1 := ⟨by kernel_rfl⟩
instance : HFv Tryd.prog 183 3 3 false 1 := ⟨by kernel_rfl⟩
instance : HFv Tryd.prog 184 0 0 false 1 := ⟨by kernel_rfl⟩
instance : HFv Tryd.prog 184 1 1 false 1 := ⟨by kernel_rfl⟩
instance : HFv Tryd.prog 184 2 2 false 1 := ⟨by kernel_rfl⟩
instance : HFv Tryd.prog 184 3 3 false 1 := ⟨by kernel_rfl⟩
end Go.Proofs.YtfaljkenmbbbaaaDoor
/- Rows of ints, of strings. -/
namespace Go.Proofs.YtfaljkenmbbbaaaDoor
open Go.RowKit
set_option linter.unusedSimpArgs false
set_option linter.unusedVariables false
theorem take_snoc' {α : Type} (l : List α) (k : Nat) (h : k < l.length) : l.take (k + 1) = l.take k ++ [l[k]] := by
  rw [List.take_succ_eq_append_getElem h]
def sa (l : List (List UInt8)) : List AV := l.map fun s => .x (.string (bs s))
@[simp] theorem sa_len (l : List (List UInt8)) : (sa l).length = l.length := by simp [sa]
theorem sa_drop (l : List (List UInt8)) (k : Nat) (h : k < l.length) : (sa l).drop k = .x (.string (bs l[k])) :: sa (l.drop (k + 1)) := by
  rw [sa, ← List.map_drop, List.drop_eq_getElem_cons h]; rfl
theorem sa_app (l m : List (List UInt8)) : sa (l ++ m) = sa l ++ sa m := by simp [sa]
theorem u8a_one (v : Int) (h0 : 0 ≤ v) (h1 : v < 256) : u8a [UInt8.ofNat v.toNat] = [.x (.int .u8 v)] := by
  have e : (UInt8.ofNat v.toNat).toNat = v.toNat := by
    rw [UInt8.toNat_ofNat']
    exact Nat.mod_eq_of_lt (by omega)
  simp [u8a, u8s, e]
  omega
theorem Src.chr {ρ : Operand → AV} {H : List Hp} {x : Operand} (q : Nat) {ad : Option Addr} {cap : Nat} {e : TypeId} {size : Nat} (v : Int) (h0 : 0 ≤ v) (h1 : v < 256) (hx : ρ x = .x (.slice ad 1 cap)) (hq : H[q]? = some (.row ad 1 cap e size [.x (.int .u8 v)])) :
    Src ρ H x [UInt8.ofNat v.toNat].length (u8a [UInt8.ofNat v.toNat]) := by
  rw [u8a_one v h0 h1]; exact Src.row q hx hq
theorem u8a_app (l m : List UInt8) : u8a (l ++ m) = u8a l ++ u8a m := by simp [u8a, u8s]
theorem u8a_cons (b : UInt8) (l : List UInt8) : u8a (b :: l) = .x (.int .u8 (b.toNat : Nat)) :: u8a l := by simp [u8a, u8s]
theorem u8a_nil : u8a [] = [] := rfl
end Go.Proofs.YtfaljkenmbbbaaaDoor
/- Bytes of strings in regions that draw. -/
namespace Go.Proofs.YtfaljkenmbbbaaaDoor
open Go.RowKit
set_option linter.unusedSimpArgs false
set_option linter.unusedVariables false
/-- A byte of a string: it hangs on no memory. -/
theorem WInd_index_str {P : Program} {o : Oper} {ρ : Operand → AV} {H : List Hp} (t : TypeId) (x y : Operand) (k : IntKind) (i : Int) (j : Nat) (l : List UInt8) (ho : o.op = .index t x y) (hx : ρ x = .x (.string (bs l))) (hy : ρ y = .x (.int k i)) (ht : P.underlying t = some .string) (hi : i = (j : Int)) (h1 : j < l.length) : WInd P o ρ H (.x (.int .u8 (l.getD j 0).toNat)) := by
  subst hi
  intro V a w r
  have hg : (bs l)[j]? = some l[j] := by rw [getElem?_pos (bs l) j (by simpa using h1)]; simp
  refine ⟨.int .u8 (l.getD j 0).toNat, fun w' => ?_, by rw [Den]⟩
  have hrun : (Instr.index t (.string (bs l)) (.int k (j : Int))).run P w' = .ok (.int .u8 (l.getD j 0).toNat) w' := by simp [Instr.index, asIntOf, run_underlying ht, hg, h1, List.getD]
  simp [execOp, ho, r.evx (x := x) (by simp [ho, Op.operands]) hx, r.evx (x := y) (by simp [ho, Op.operands]) hy, hrun]
theorem getD_at {α : Type} (s : List α) (k : Nat) (d : α) (h : k < s.length) : s.getD k d = s[k] := by simp [List.getD, h]
theorem getq_at {α : Type} (s : List α) (k : Nat) (d : α) (h : k < s.length) : s[k]?.getD d = s[k] := by simp [h]
end Go.Proofs.YtfaljkenmbbbaaaDoor
/- The tokens of a text, in plain Lean. No program in sight. -/
namespace Go.Proofs.YtfaljkenmbbbaaaDoor
open Go.RowKit
set_option linter.unusedSimpArgs false
set_option linter.unusedVariables false
/-- A letter, a digit, a digit of base 16. -/
def isLet (b : UInt8) : Bool := decide ((65 ≤ b.toNat ∧ b.toNat ≤ 90) ∨ (97 ≤ b.toNat ∧ b.toNat ≤ 122) ∨ b.toNat = 95)
def isDig (b : UInt8) : Bool := decide (48 ≤ b.toNat ∧ b.toNat ≤ 57)
def hexv (b : UInt8) : Option Nat :=
  if 48 ≤ b.toNat ∧ b.toNat ≤ 57 then some (b.toNat - 48)
  else if 97 ≤ b.toNat ∧ b.toNat ≤ 102 then some (b.toNat - 87)
  else if 65 ≤ b.toNat ∧ b.toNat ≤ 70 then some (b.toNat - 55) else none
theorem hexv_lt {b : UInt8} {n : Nat} (h : hexv b = some n) : n < 16 := by
  unfold hexv at h
  split at h
  · cases h; omega
  · split at h
    · cases h; omega
    · split at h
      · cases h; omega
      · cases h
/-- What stands behind a '\' in a string: its byte, and how many bytes stand for it. -/
def escd : List UInt8 → Option (UInt8 × Nat)
  | [] => none
  | d :: r =>
    if d.toNat = 34 ∨ d.toNat = 92 then some (d, 1) else if d.toNat = 110 then some (10, 1) else if d.toNat = 116 then some (9, 1)
    else if d.toNat = 120 then match r with
      | h :: l :: _ => match hexv h, hexv l with
        | some a, some b => some (UInt8.ofNat (16 * a + b), 3)
        | _, _ => none
      | _ => none
    else none
theorem escd_mark (d : UInt8) (r : List UInt8) (h : d.toNat = 34 ∨ d.toNat = 92) : escd (d :: r) = some (d, 1) := by simp only [escd, if_pos h]
theorem escd_n (d : UInt8) (r : List UInt8) (h : d.toNat = 110) : escd (d :: r) = some (10, 1) := by simp only [escd]; rw [if_neg (by omega), if_pos h]
theorem escd_t (d : UInt8) (r : List UInt8) (h : d.toNat = 116) : escd (d :: r) = some (9, 1) := by simp only [escd]; rw [if_neg (by omega), if_neg (by omega), if_pos h]
theorem escd_x (d a b : UInt8) (r : List UInt8) (h : d.toNat = 120) : escd (d :: a :: b :: r) = (hexv a).bind fun x => (hexv b).map fun y => (UInt8.ofNat (16 * x + y), 3) := by
  simp only [escd]; rw [if_neg (by omega), if_neg (by omega), if_neg (by omega), if_pos h]
  cases hexv a <;> cases hexv b <;> rfl
theorem escd_x1 (d a : UInt8) (h : d.toNat = 120) : escd [d, a] = none := by
  simp only [escd]; rw [if_neg (by omega), if_neg (by omega), if_neg (by omega), if_pos h]
theorem escd_x0 (d : UInt8) (h : d.toNat = 120) : escd [d] = none := by
  simp only [escd]; rw [if_neg (by omega), if_neg (by omega), if_neg (by omega), if_pos h]
theorem escd_no (d : UInt8) (r : List UInt8) (h : ¬(d.toNat = 34 ∨ d.toNat = 92 ∨ d.toNat = 110 ∨ d.toNat = 116 ∨ d.toNat = 120)) : escd (d :: r) = none := by
  simp only [escd]; rw [if_neg (by omega), if_neg (by omega), if_neg (by omega), if_neg (by omega)]
/-- A part of a string: its byte, and how many bytes stand for it. -/
def part : List UInt8 → Option (UInt8 × Nat)
  | [] => none
  | c :: r => if c.toNat < 32 ∨ c.toNat = 34 then none else if c.toNat ≠ 92 then some (c, 1) else (escd r).map fun x => (x.1, x.2 + 1)
theorem part_cons (c : UInt8) (r : List UInt8) : part (c :: r) = if c.toNat < 32 ∨ c.toNat = 34 then none else if c.toNat ≠ 92 then some (c, 1) else (escd r).map fun x => (x.1, x.2 + 1) := rfl
theorem escd_le {l : List UInt8} {b : UInt8} {n : Nat} (h : escd l = some (b, n)) : 1 ≤ n ∧ n ≤ 3 ∧ n ≤ l.length := by
  unfold escd at h
  split at h
  · cases h
  · split at h
    · cases h; simp
    · split at h
      · cases h; simp
      · split at h
        · cases h; simp
        · split at h
          · split at h
            · split at h
              · cases h; simp
              · cases h
            · cases h
          · cases h
theorem part_le {l : List UInt8} {b : UInt8} {n : Nat} (h : part l = some (b, n)) : 1 ≤ n ∧ n ≤ 4 ∧ n ≤ l.length := by
  unfold part at h
  split at h
  · cases h
  · split at h
    · cases h
    · split at h
      · cases h; simp
      · cases he : escd _ with
        | none => rw [he] at h; cases h
        | some x => rw [he] at h; cases h; have := escd_le he; simp; omega
/-- A string behind its first mark: its content, and how many bytes it has with the last mark. -/
def quo (l : List UInt8) : Option (List UInt8 × Nat) :=
  match l with
  | [] => none
  | c :: r =>
    if c.toNat = 34 then some ([], 1) else
    match part (c :: r) with
    | none => none
    | some x => (quo ((c :: r).drop (max x.2 1))).map fun y => (x.1 :: y.1, x.2 + y.2)
termination_by l.length
decreasing_by simp; omega
/-- A pattern behind its first slash. -/
def sla (l : List UInt8) : Option (List UInt8 × Nat) :=
  match l with
  | [] => none
  | c :: r =>
    if c.toNat = 47 then some ([], 1) else if c.toNat < 32 then none
    else if c.toNat = 92 then
      match r with
      | [] => none
      | d :: r => if d.toNat < 32 then none else if d.toNat = 47 then (sla r).map fun x => (d :: x.1, 2 + x.2) else (sla r).map fun x => (c :: d :: x.1, 2 + x.2)
    else (sla r).map fun x => (c :: x.1, 1 + x.2)
/-- How many bytes at the beginning are of a word, of a number. -/
def spn (p : UInt8 → Bool) (l : List UInt8) : Nat := (l.takeWhile p).length
def isWrd (b : UInt8) : Bool := isDig b || (isLet b || decide (b.toNat = 45))
/-- A token at the beginning of a text: its kind, its content, its bytes; or the error. -/
def one : List UInt8 → Except Int (Int × List UInt8 × Nat)
  | [] => .error 50
  | c :: r =>
    if isLet c then .ok (1, (c :: r).take (spn isWrd (c :: r)), spn isWrd (c :: r))
    else if isDig c then
      if 18 < spn isDig (c :: r) ∨ 1 < spn isDig (c :: r) ∧ c.toNat = 48 then .error 53 else .ok (2, (c :: r).take (spn isDig (c :: r)), spn isDig (c :: r))
    else if c.toNat = 34 then match quo r with
      | none => .error 51
      | some x => .ok (3, x.1, x.2 + 1)
    else if c.toNat = 47 then match sla r with
      | none => .error 52
      | some x => .ok (4, x.1, x.2 + 1)
    else if c.toNat = 123 ∨ c.toNat = 125 ∨ c.toNat = 44 ∨ c.toNat = 61 then .ok (5, [c], 1)
    else .error 50
/-- How many bytes are ahead of the next line's end. -/
def cmt : List UInt8 → Nat
  | [] => 0
  | c :: r => if c.toNat = 10 then 0 else cmt r + 1
/-- How many bytes of blanks and comments are at the beginning. -/
def skp : List UInt8 → Nat
  | [] => 0
  | c :: r =>
    if c.toNat = 32 ∨ c.toNat = 9 ∨ c.toNat = 10 ∨ c.toNat = 13 then skp r + 1
    else if c.toNat = 35 then cmt (c :: r) + skp ((c :: r).drop (max (cmt (c :: r)) 1))
    else 0
termination_by l => l.length
decreasing_by
  · simp
  · simp; omega
theorem cmt_le (l : List UInt8) : cmt l ≤ l.length := by
  induction l with
  | nil => simp [cmt]
  | cons c r ih => simp only [cmt]; split <;> simp; omega
theorem cmt_yes (c : UInt8) (r : List UInt8) (h : c.toNat ≠ 10) : cmt (c :: r) = cmt r + 1 := by simp only [cmt, if_neg h]
theorem cmt_no (c : UInt8) (r : List UInt8) (h : c.toNat = 10) : cmt (c :: r) = 0 := by simp only [cmt, if_pos h]
theorem skp_nil : skp [] = 0 := by rw [skp]
theorem skp_blank (c : UInt8) (r : List UInt8) (h : c.toNat = 32 ∨ c.toNat = 9 ∨ c.toNat = 10 ∨ c.toNat = 13) : skp (c :: r) = skp r + 1 := by rw [skp, if_pos h]
theorem skp_cmt (c : UInt8) (r : List UInt8) (h : c.toNat = 35) : skp (c :: r) = cmt (c :: r) + skp ((c :: r).drop (cmt (c :: r))) := by
  rw [skp, if_neg (by omega), if_pos h, show max (cmt (c :: r)) 1 = cmt (c :: r) from by rw [cmt_yes _ _ (by omega)]; omega]
theorem skp_no (c : UInt8) (r : List UInt8) (h : ¬(c.toNat = 32 ∨ c.toNat = 9 ∨ c.toNat = 10 ∨ c.toNat = 13)) (h2 : c.toNat ≠ 35) : skp (c :: r) = 0 := by rw [skp, if_neg h, if_neg h2]
/-- Line and column, behind more bytes. -/
def plc (p : Nat × Nat) : List UInt8 → Nat × Nat
  | [] => p
  | c :: r => plc (if c.toNat = 10 then (p.1 + 1, 1) else (p.1, p.2 + 1)) r
structure Tok where
  kind : Int
  text : List UInt8
  line : Nat
  col : Nat
structure Flt where
  code : Int
  line : Nat
  col : Nat
/-- The tokens of a text, or its fault: behind n tokens, at a place. -/
def lexGo (p : Nat × Nat) (n : Nat) (l : List UInt8) : Except Flt (List Tok) :=
  match h : l.drop (skp l) with
  | [] => .ok [⟨6, [], (plc p l).1, (plc p l).2⟩]
  | c :: r =>
    match one (c :: r) with
    | .error e => .error ⟨e, (plc p (l.take (skp l))).1, (plc p (l.take (skp l))).2⟩
    | .ok x => if 2000 ≤ n then .error ⟨1, (plc p (l.take (skp l))).1, (plc p (l.take (skp l))).2⟩
      else (lexGo (plc p (l.take (skp l + x.2.2))) (n + 1) ((c :: r).drop (max x.2.2 1))).map (⟨x.1, x.2.1, (plc p (l.take (skp l))).1, (plc p (l.take (skp l))).2⟩ :: ·)
termination_by l.length
decreasing_by
  have := congrArg List.length h
  simp at *; omega
def lex (l : List UInt8) : Except Flt (List Tok) := if 8192 < l.length then .error ⟨1, 0, 0⟩ else lexGo (1, 1) 0 l
end Go.Proofs.YtfaljkenmbbbaaaDoor
/- Of the tokens of a text: laws. No program in sight. -/
namespace Go.Proofs.YtfaljkenmbbbaaaDoor
open Go.RowKit
set_option linter.unusedSimpArgs false
set_option linter.unusedVariables false
theorem spn_nil (p : UInt8 → Bool) : spn p [] = 0 := rfl
theorem spn_yes (p : UInt8 → Bool) (c : UInt8) (r : List UInt8) (h : p c = true) : spn p (c :: r) = spn p r + 1 := by simp [spn, List.takeWhile_cons, h]
theorem spn_no (p : UInt8 → Bool) (c : UInt8) (r : List UInt8) (h : p c = false) : spn p (c :: r) = 0 := by simp [spn, List.takeWhile_cons, h]
theorem spn_le (p : UInt8 → Bool) (l : List UInt8) : spn p l ≤ l.length := (List.takeWhile_prefix p).length_le
theorem quo_nil : quo [] = none := by rw [quo]
theorem quo_end (c : UInt8) (r : List UInt8) (h : c.toNat = 34) : quo (c :: r) = some ([], 1) := by rw [quo, if_pos h]
theorem quo_no (c : UInt8) (r : List UInt8) (h : c.toNat ≠ 34) (h2 : part (c :: r) = none) : quo (c :: r) = none := by rw [quo, if_neg h, h2]
theorem quo_part (c : UInt8) (r : List UInt8) (b : UInt8) (n : Nat) (h : c.toNat ≠ 34) (h2 : part (c :: r) = some (b, n)) : quo (c :: r) = (quo ((c :: r).drop n)).map fun y => (b :: y.1, n + y.2) := by
  rw [quo, if_neg h, h2]; simp only []; rw [show max n 1 = n from by have := part_le h2; omega]
theorem quo_le (l : List UInt8) : ∀ x, quo l = some x → 1 ≤ x.2 ∧ x.2 ≤ l.length ∧ x.1.length < x.2 := by
  match h : l with
  | [] => intro x hx; rw [quo_nil] at hx; cases hx
  | c :: r =>
    intro x hx
    by_cases h1 : c.toNat = 34
    · rw [quo_end c r h1] at hx; cases hx; simp
    · cases hp : part (c :: r) with
      | none => rw [quo_no c r h1 hp] at hx; cases hx
      | some y =>
        obtain ⟨b, n⟩ := y
        have hle := part_le hp
        rw [quo_part c r b n h1 hp] at hx
        cases hq : quo ((c :: r).drop n) with
        | none => rw [hq] at hx; cases hx
        | some z =>
          have := quo_le ((c :: r).drop n) z hq
          rw [hq] at hx; cases hx
          simp only [List.length_drop, List.length_cons] at *; omega
termination_by l.length
decreasing_by subst h; simp; omega
theorem sla_nil : sla [] = none := by rw [sla]
theorem sla_end (c : UInt8) (r : List UInt8) (h : c.toNat = 47) : sla (c :: r) = some ([], 1) := by rw [sla.eq_def]; simp only [if_pos h]
theorem sla_bad (c : UInt8) (r : List UInt8) (h : c.toNat < 32) : sla (c :: r) = none := by rw [sla.eq_def]; simp only [if_neg (show ¬ c.toNat = 47 by omega), if_pos h]
theorem sla_last (c : UInt8) (h : c.toNat = 92) : sla [c] = none := by rw [sla, if_neg (by omega), if_neg (by omega), if_pos h]
theorem sla_bad2 (c d : UInt8) (r : List UInt8) (h : c.toNat = 92) (h2 : d.toNat < 32) : sla (c :: d :: r) = none := by rw [sla, if_neg (by omega), if_neg (by omega), if_pos h]; simp only [if_pos h2]
theorem sla_esc (c d : UInt8) (r : List UInt8) (h : c.toNat = 92) (h2 : d.toNat = 47) : sla (c :: d :: r) = (sla r).map fun x => (d :: x.1, 2 + x.2) := by
  rw [sla, if_neg (by omega), if_neg (by omega), if_pos h]; simp only [if_neg (show ¬ d.toNat < 32 by omega), if_pos h2]
theorem sla_two (c d : UInt8) (r : List UInt8) (h : c.toNat = 92) (h2 : 32 ≤ d.toNat) (h3 : d.toNat ≠ 47) : sla (c :: d :: r) = (sla r).map fun x => (c :: d :: x.1, 2 + x.2) := by
  rw [sla, if_neg (by omega), if_neg (by omega), if_pos h]; simp only [if_neg (show ¬ d.toNat < 32 by omega), if_neg h3]
theorem sla_one (c : UInt8) (r : List UInt8) (h : c.toNat ≠ 47) (h2 : 32 ≤ c.toNat) (h3 : c.toNat ≠ 92) : sla (c :: r) = (sla r).map fun x => (c :: x.1, 1 + x.2) := by
  rw [sla.eq_def]; simp only [if_neg h, if_neg (show ¬ c.toNat < 32 by omega), if_neg h3]
theorem sla_le (l : List UInt8) : ∀ x, sla l = some x → 1 ≤ x.2 ∧ x.2 ≤ l.length ∧ x.1.length < x.2 := by
  match h : l with
  | [] => intro x hx; rw [sla_nil] at hx; cases hx
  | c :: r =>
    intro x hx
    by_cases h1 : c.toNat = 47
    · rw [sla_end c r h1] at hx; cases hx; simp
    by_cases h2 : c.toNat < 32
    · rw [sla_bad c r h2] at hx; cases hx
    by_cases h3 : c.toNat = 92
    · match r, hx with
      | [], hx => rw [sla_last c h3] at hx; cases hx
      | d :: r, hx =>
        by_cases h4 : d.toNat < 32
        · rw [sla_bad2 c d r h3 h4] at hx; cases hx
        by_cases h5 : d.toNat = 47
        · rw [sla_esc c d r h3 h5] at hx
          cases hq : sla r with
          | none => rw [hq] at hx; cases hx
          | some z => have := sla_le r z hq; rw [hq] at hx; cases hx; simp only [List.length_cons]; omega
        · rw [sla_two c d r h3 (by omega) h5] at hx
          cases hq : sla r with
          | none => rw [hq] at hx; cases hx
          | some z => have := sla_le r z hq; rw [hq] at hx; cases hx; simp only [List.length_cons]; omega
    · rw [sla_one c r h1 (by omega) h3] at hx
      cases hq : sla r with
      | none => rw [hq] at hx; cases hx
      | some z => have := sla_le r z hq; rw [hq] at hx; cases hx; simp only [List.length_cons]; omega
termination_by l.length
decreasing_by
  all_goals subst h; simp; try omega
end Go.Proofs.YtfaljkenmbbbaaaDoor
/- Of the tokens of a text: how lexGo unfolds. No program in sight. -/
namespace Go.Proofs.YtfaljkenmbbbaaaDoor
open Go.RowKit
set_option linter.unusedSimpArgs false
set_option linter.unusedVariables false
theorem lexGo_end (p : Nat × Nat) (n : Nat) (l : List UInt8) (h : l.drop (skp l) = []) : lexGo p n l = .ok [⟨6, [], (plc p l).1, (plc p l).2⟩] := by
  rw [lexGo]
  split
  · rfl
  · rename_i h2; rw [h] at h2; cases h2
theorem lexGo_bad (p : Nat × Nat) (n : Nat) (l : List UInt8) (c : UInt8) (r : List UInt8) (e : Int) (h : l.drop (skp l) = c :: r) (h1 : one (c :: r) = .error e) : lexGo p n l = .error ⟨e, (plc p (l.take (skp l))).1, (plc p (l.take (skp l))).2⟩ := by
  rw [lexGo]
  split
  · rename_i h2; rw [h] at h2; cases h2
  · rename_i c' r' h2
    rw [h] at h2; cases h2
    rw [h1]
theorem lexGo_full (p : Nat × Nat) (n : Nat) (l : List UInt8) (c : UInt8) (r : List UInt8) (x : Int × List UInt8 × Nat) (h : l.drop (skp l) = c :: r) (h1 : one (c :: r) = .ok x) (hn : 2000 ≤ n) : lexGo p n l = .error ⟨1, (plc p (l.take (skp l))).1, (plc p (l.take (skp l))).2⟩ := by
  rw [lexGo]
  split
  · rename_i h2; rw [h] at h2; cases h2
  · rename_i c' r' h2
    rw [h] at h2; cases h2
    rw [h1]
    simp only [if_pos hn]
theorem lexGo_one (p : Nat × Nat) (n : Nat) (l : List UInt8) (c : UInt8) (r : List UInt8) (k : Int) (t : List UInt8) (m : Nat) (h : l.drop (skp l) = c :: r) (h1 : one (c :: r) = .ok (k, t, m)) (hm : 1 ≤ m) (hn : n < 2000) :
    lexGo p n l = (lexGo (plc p (l.take (skp l + m))) (n + 1) ((c :: r).drop m)).map (⟨k, t, (plc p (l.take (skp l))).1, (plc p (l.take (skp l))).2⟩ :: ·) := by
  rw [lexGo]
  split
  · rename_i h2; rw [h] at h2; cases h2
  · rename_i c' r' h2
    rw [h] at h2; cases h2
    rw [h1]
    simp only [if_neg (show ¬ 2000 ≤ n by omega), show max m 1 = m from by omega]
end Go.Proofs.YtfaljkenmbbbaaaDoor
/- The program's lexer: letters, digits, digits of base 16, what stands behind a mark. -/
namespace Go.Proofs.YtfaljkenmbbbaaaDoor
open Go.RowKit
set_option linter.unusedSimpArgs false
set_option linter.unusedVariables false
/-- A test of bytes. -/
def ByteTest (f : Nat) (p : UInt8 → Bool) : Prop := ∀ b : UInt8, Spec Tryd.prog f [] [.x (.int .u8 (b.toNat : Nat))] (fun r H' => r = .x (.bool (p b)) ∧ H' = [])
def hexI (b : UInt8) : Int := match hexv b with | some n => (n : Int) | none => -1
theorem hexI_some {b : UInt8} {n : Nat} (h : hexv b = some n) : hexI b = n := by unfold hexI; rw [h]
theorem hexI_none {b : UInt8} (h : hexv b = none) : hexI b = -1 := by unfold hexI; rw [h]
set_option maxRecDepth 100000 in
set_option maxHeartbeats 8000000 in
theorem isLetter_s : ByteTest 56 isLet := by
  intro b
  refine Spec_of Tryd.func56 rfl ?_
  simp only [Tryd.ntmps56, List.length_cons, List.length_nil, List.replicate_succ, List.replicate_zero, List.cons_append, List.nil_append, Nat.reduceAdd, Nat.reduceSub]
  (repeat' (first | with_reducible (first | refine awp_seq ?_ | refine awp_region ?_ | refine awp_ret ?_ | refine awpL_nil ?_ | refine thenA_normal ?_) | ((first | apply awpL_evl2 rfl | apply awpL_g2 _ _ rfl rfl rfl); (case h => ((try (intro (hp : (_ : Bool) = true); ((try simp only [Bool.and_eq_true, Bool.not_eq_true', Bool.not_eq_true] at hp); (try simp only [hp, wte]); (try simp only [whn] at hp)))); (first | (apply Evl_k 0 rfl; (first | exact Evl_mv _ rfl | exact Evl_as _ rfl)) | (apply Evl_k 1 rfl; (first | exact Evl_and _ _ _ _ _ rfl rfl rfl rfl | exact Evl_or _ _ _ _ _ rfl rfl rfl rfl | exact Evl_and' _ _ _ _ _ rfl rfl rfl rfl)) | (apply Evl_x; (case hs => (intro _ _ h; cases h)); (case hx => rfl); (case hrun => (intro w; simp [wtb, AV.val, go_sem]; (try go_bits); rfl)))))); (case hT => ((try simp only [wtn, List.append_eq, List.foldl_cons, List.foldl_nil, List.map_cons, List.map_nil, Nat.reduceAdd, Nat.reduceMul, Nat.reduceSub, ↓reduceIte, Nat.reduceEqDiff]); rfl))) | fail))
  refine endA_ret _ _ (Res1 rfl (RV.tmp _) (Weak.mk' [] _ (List.Perm.refl _) (VwHs.refl _ _) (VwL.refl _ _))) ?_
  refine ⟨?_, rfl⟩
  simp only [ev, List.getD_cons_succ, List.getD_cons_zero]
  congr 2
  rw [Bool.eq_iff_iff]
  unfold isLet
  simp only [Bool.and_eq_true, Bool.or_eq_true, decide_eq_true_eq, beq_iff_eq]
  omega
set_option maxRecDepth 100000 in
set_option maxHeartbeats 8000000 in
theorem isDigit_s : ByteTest 59 isDig := by
  intro b
  refine Spec_of Tryd.func59 rfl ?_
  simp only [Tryd.ntmps59, List.length_cons, List.length_nil, List.replicate_succ, List.replicate_zero, List.cons_append, List.nil_append, Nat.reduceAdd, Nat.reduceSub]
  (repeat' (first | with_reducible (first | refine awp_seq ?_ | refine awp_region ?_ | refine awp_ret ?_ | refine awpL_nil ?_ | refine thenA_normal ?_) | ((first | apply awpL_evl2 rfl | apply awpL_g2 _ _ rfl rfl rfl); (case h => ((try (intro (hp : (_ : Bool) = true); ((try simp only [Bool.and_eq_true, Bool.not_eq_true', Bool.not_eq_true] at hp); (try simp only [hp, wte]); (try simp only [whn] at hp)))); (first | (apply Evl_k 0 rfl; (first | exact Evl_mv _ rfl | exact Evl_as _ rfl)) | (apply Evl_k 1 rfl; (exact Evl_and _ _ _ _ _ rfl rfl rfl rfl)) | (apply Evl_x; (case hs => (intro _ _ h; cases h)); (case hx => rfl); (case hrun => (intro w; simp [wtb, AV.val, go_sem]; (try go_bits); rfl)))))); (case hT => ((try simp only [wtn, List.append_eq, List.foldl_cons, List.foldl_nil, List.map_cons, List.map_nil, Nat.reduceAdd, Nat.reduceMul, Nat.reduceSub, ↓reduceIte, Nat.reduceEqDiff]); rfl))) | fail))
  refine endA_ret _ _ (Res1 rfl (RV.tmp _) (Weak.mk' [] _ (List.Perm.refl _) (VwHs.refl _ _) (VwL.refl _ _))) ?_
  refine ⟨?_, rfl⟩
  simp only [ev, List.getD_cons_succ, List.getD_cons_zero]
  congr 2
  rw [Bool.eq_iff_iff]
  unfold isDig
  simp only [Bool.and_eq_true, Bool.or_eq_true, decide_eq_true_eq, beq_iff_eq]
  omega
set_option maxRecDepth 100000 in
set_option maxHeartbeats 8000000 in
theorem isWord_s : ByteTest 58 isWrd := by
  intro b
  refine Spec_of Tryd.func58 rfl ?_
  simp only [Tryd.ntmps58, List.length_cons, List.length_nil, List.replicate_succ, List.replicate_zero, List.cons_append, List.nil_append, Nat.reduceAdd, Nat.reduceSub]
  (repeat' (first | with_reducible (first | refine awp_seq ?_ | refine awp_region ?_ | refine awp_ret ?_ | refine awpL_nil ?_ | refine thenA_normal ?_) | ((first | apply awpL_evl2 rfl | apply awpL_g2 _ _ rfl rfl rfl); (case h => ((try (intro (hp : (_ : Bool) = true); ((try simp only [Bool.and_eq_true, Bool.not_eq_true', Bool.not_eq_true] at hp); (try simp only [hp, wte]); (try simp only [whn] at hp)))); (first | (apply Evl_k 0 rfl; (first | exact Evl_mv _ rfl | exact Evl_as _ rfl)) | (apply Evl_k 1 rfl; (exact Evl_or _ _ _ _ _ rfl rfl rfl rfl)) | (apply Evl_k 11 rfl; (first | exact Evl_call 56 Tryd.f56 _ _ rfl rfl Tryd.func56 (by decide) rfl (VwL.refl _ _) (isLetter_s b) | exact Evl_call 59 Tryd.f59 _ _ rfl rfl Tryd.func59 (by decide) rfl (VwL.refl _ _) (isDigit_s b))) | (apply Evl_x; (case hs => (intro _ _ h; cases h)); (case hx => rfl); (case hrun => (intro w; simp [wtb, AV.val, go_sem]; (try go_bits); rfl)))))); (case hT => ((try simp only [wtn, List.append_eq, List.foldl_cons, List.foldl_nil, List.map_cons, List.map_nil, Nat.reduceAdd, Nat.reduceMul, Nat.reduceSub, ↓reduceIte, Nat.reduceEqDiff]); rfl))) | fail))
  refine endA_ret _ _ (Res1 rfl (RV.tmp _) (Weak.mk' [] _ (List.Perm.refl _) (VwHs.refl _ _) (VwL.refl _ _))) ?_
  refine ⟨?_, rfl⟩
  simp only [ev, List.getD_cons_succ, List.getD_cons_zero]
  congr 2
  rw [Bool.eq_iff_iff]
  unfold isWrd
  simp only [Bool.and_eq_true, Bool.or_eq_true, decide_eq_true_eq, beq_iff_eq]
  rcases Bool.eq_false_or_eq_true (isLet b) with h1 | h1 <;> rcases Bool.eq_false_or_eq_true (isDig b) with h2 | h2 <;> simp [h1, h2] <;> omega
set_option maxRecDepth 100000 in
set_option maxHeartbeats 8000000 in
theorem hex_s (b : UInt8) : Spec Tryd.prog 90 [] [.x (.int .u8 (b.toNat : Nat))] (fun r H' => r = .x (.int .i64 (hexI b)) ∧ H' = []) := by
  have hb := b.toNat_lt
  refine Spec_of Tryd.func90 rfl ?_
  simp only [Tryd.ntmps90, List.length_cons, List.length_nil, List.replicate_succ, List.replicate_zero, List.cons_append, List.nil_append, Nat.reduceAdd, Nat.reduceSub]
  (repeat' (first | with_reducible (first | refine awp_seq ?_ | refine awp_region ?_ | refine awp_block ?_ | refine awp_ret ?_ | refine awp_skip ?_ | refine awpL_nil ?_ | refine thenA_normal ?_ | refine thenA_ret ?_ | refine inBlockA_normal ?_ | refine inBlockA_ret ?_) | (refine awp_cond _ rfl (fun h => ?_) (fun h => ?_) <;> ((try (simp only [whn] at h)); skip)) | ((first | apply awpL_evl2 rfl | apply awpL_g2 _ _ rfl rfl rfl); (case h => ((try (intro (hp : (_ : Bool) = true); ((try simp only [Bool.and_eq_true, Bool.not_eq_true', Bool.not_eq_true] at hp); (try simp only [hp, wte]); (try simp only [whn] at hp)))); (first | (apply Evl_k 0 rfl; (first | exact Evl_mv _ rfl | exact Evl_as _ rfl)) | (apply Evl_k 1 rfl; (exact Evl_and _ _ _ _ _ rfl rfl rfl rfl)) | (apply Evl_x; (case hs => (intro _ _ h; cases h)); (case hx => rfl); (case hrun => (intro w; simp [wtb, AV.val, go_sem]; (try go_bits); rfl)))))); (case hT => ((try simp only [wtn, List.append_eq, List.foldl_cons, List.foldl_nil, List.map_cons, List.map_nil, Nat.reduceAdd, Nat.reduceMul, Nat.reduceSub, ↓reduceIte, Nat.reduceEqDiff]); rfl))) | fail))
  all_goals
    refine endA_ret _ _ (Res1 rfl (RV.tmp _) (Weak.mk' [] _ (List.Perm.refl _) (VwHs.refl _ _) (VwL.refl _ _))) ?_
    refine ⟨?_, rfl⟩
    simp only [ev, List.getD_cons_succ, List.getD_cons_zero]
    congr 2
    unfold hexI hexv
    first
      | (rw [if_pos (by omega)]; simp only; omega)
      | (rw [if_neg (by omega), if_pos (by omega)]; simp only; omega)
      | (rw [if_neg (by omega), if_neg (by omega), if_pos (by omega)]; simp only; omega)
      | (rw [if_neg (by omega), if_neg (by omega), if_neg (by omega)])
end Go.Proofs.YtfaljkenmbbbaaaDoor
/- The program's lexer: what stands behind a mark. -/
namespace Go.Proofs.YtfaljkenmbbbaaaDoor
open Go.RowKit
set_option linter.unusedSimpArgs false
set_option linter.unusedVariables false
def escR (l : List UInt8) : UInt8 × Nat := match escd l with | some x => x | none => (0, 0)
theorem escR_some {l : List UInt8} {x : UInt8 × Nat} (h : escd l = some x) : escR l = x := by unfold escR; rw [h]
theorem escR_none {l : List UInt8} (h : escd l = none) : escR l = (0, 0) := by unfold escR; rw [h]
theorem or4 {p q : Nat} (hp : p < 16) (hq : q < 16) : bits BinOp.or IntKind.i64 ((p : Int) * 16) (q : Int) % 256 = ((UInt8.ofNat (16 * p + q)).toNat : Int) := by
  have e : ((p : Int) * 16) = ((p * 16 : Nat) : Int) := by simp
  rw [e]
  have e2 : bits BinOp.or IntKind.i64 ((p * 16 : Nat) : Int) (q : Int) = ((16 * p + q : Nat) : Int) := by
    show IntKind.i64.wrap (((BitVec.ofInt 64 ((p * 16 : Nat) : Int) ||| BitVec.ofInt 64 (q : Int)).toNat : Nat) : Int) = _
    rw [BitVec.ofInt_natCast, BitVec.ofInt_natCast, BitVec.toNat_or, BitVec.toNat_ofNat, BitVec.toNat_ofNat, Nat.mod_eq_of_lt (by omega), Nat.mod_eq_of_lt (by omega), Nat.mul_comm, ← Nat.two_pow_add_eq_or_of_lt (i := 4) (by omega)]
    simp [IntKind.wrap, IntKind.signed, IntKind.bits]
    omega
  rw [e2, UInt8.toNat_ofNat']
  omega
set_option maxRecDepth 100000 in
set_option maxHeartbeats 8000000 in
theorem escaped_nil : Spec Tryd.prog 80 [] [.x (.string (bs []))] (fun r H' => r = .tup [.x (.int .u8 0), .x (.int .i64 0)] ∧ H' = []) := by
  refine Spec_of Tryd.func80 rfl ?_
  simp only [Tryd.ntmps80, List.length_cons, List.length_nil, List.replicate_succ, List.replicate_zero, List.cons_append, List.nil_append, Nat.reduceAdd, Nat.reduceSub]
  (repeat' (first | with_reducible (first | refine awp_seq ?_ | refine awp_region ?_ | refine awp_ret ?_ | refine awpL_nil ?_ | refine thenA_normal ?_ | refine thenA_ret ?_) | (refine awp_cond _ rfl (fun h => ?_) (fun h => ?_) <;> first | (exact absurd h (by decide)) | ((try (simp only [whn] at h)); skip)) | ((apply awpL_evl2 rfl); (case h => ((try (intro (hp : (_ : Bool) = true); ((try simp only [Bool.and_eq_true, Bool.not_eq_true', Bool.not_eq_true] at hp); (try simp only [hp, wte]); (try simp only [whn] at hp)))); (first | (apply Evl_k 0 rfl; (first | exact Evl_mv _ rfl | exact Evl_as _ rfl)) | (apply Evl_x; (case hs => (intro _ _ h; cases h)); (case hx => rfl); (case hrun => (intro w; simp [wtb, AV.val, go_sem]; (try go_bits); rfl)))))); (case hT => ((try simp only [wtn, List.append_eq, List.foldl_cons, List.foldl_nil, List.map_cons, List.map_nil, Nat.reduceAdd, Nat.reduceMul, Nat.reduceSub, ↓reduceIte, Nat.reduceEqDiff]); rfl))) | fail))
  exact endA_ret _ _ (Res2 rfl (RV.tmp _) (RV.tmp _) (Weak.mk' [] [] (List.Perm.refl _) VwHs.nil (VwL.refl _ _))) ⟨rfl, rfl⟩
set_option maxRecDepth 100000 in
set_option maxHeartbeats 8000000 in
theorem escaped_cons (c : UInt8) (r : List UInt8) (hl : r.length ≤ 1000000) : Spec Tryd.prog 80 [] [.x (.string (bs (c :: r)))] (fun q H' => q = .tup [.x (.int .u8 ((escR (c :: r)).1.toNat : Nat)), .x (.int .i64 ((escR (c :: r)).2 : Nat))] ∧ H' = []) := by
  refine Spec_of Tryd.func80 rfl ?_
  simp only [Tryd.ntmps80, List.length_cons, List.length_nil, List.replicate_succ, List.replicate_zero, List.cons_append, List.nil_append, Nat.reduceAdd, Nat.reduceSub]
  (repeat' (first | with_reducible (first | refine awp_seq ?_ | refine awp_region ?_ | refine awp_block ?_ | refine awp_ret ?_ | refine awp_skip ?_ | refine awpL_nil ?_ | refine thenA_normal ?_ | refine thenA_ret ?_ | refine inBlockA_normal ?_ | refine inBlockA_ret ?_) | (refine awp_cond _ rfl (fun h => ?_) (fun h => ?_) <;> first | (exact absurd h (by decide)) | ((try (simp only [whn] at h)); first | (exfalso; omega; done) | skip)) | ((apply awpL_evl2 rfl); (case h => ((try (intro (hp : (_ : Bool) = true); ((try simp only [Bool.and_eq_true, Bool.not_eq_true', Bool.not_eq_true] at hp); (try simp only [hp, wte]); (try simp only [whn] at hp)))); (first | (apply Evl_k 0 rfl; (first | exact Evl_mv _ rfl | exact Evl_as _ rfl)) | (apply Evl_k 8 rfl; (exact Evl_index_str _ _ _ _ _ 0 _ rfl rfl rfl (by kernel_rfl) rfl (by simp; first | done | fail))) | (apply Evl_x; (case hs => (intro _ _ h; cases h)); (case hx => rfl); (case hrun => (intro w; simp [wtb, AV.val, go_sem]; (try go_bits); rfl)))))); (case hT => ((try simp only [wtn, List.append_eq, List.foldl_cons, List.foldl_nil, List.map_cons, List.map_nil, Nat.reduceAdd, Nat.reduceMul, Nat.reduceSub, ↓reduceIte, Nat.reduceEqDiff]); rfl))) | fail))
  case hK.hK.hK.hK.refine_2.hK.hK.hK.hK.refine_2.hK.hK.refine_2.hK.hK.refine_2.hK.hK.refine_2.hK.hK.refine_1.hK.hK.hK.refine_2 =>
    obtain ⟨a, b, r', rfl⟩ : ∃ a b r', r = a :: b :: r' := by
      match r, h with
      | [], h => simp at h
      | [a], h => simp at h
      | a :: b :: r', _ => exact ⟨a, b, r', rfl⟩
    refine awp_drawnA mixed ?_
    (apply awpA_take 0 rfl rfl (by kernel_rfl) (by intro c T H hp; simp [thenA, inBlockA, jumpA, endA] at hp); (case h => (first | exact WInd_mv _ rfl | fail)); (apply awpA_cong; (case hT => ((try simp only [wtn, List.append_eq, List.foldl_cons, List.foldl_nil, List.map_cons, List.map_nil, Nat.reduceAdd, Nat.reduceMul, Nat.reduceSub, ↓reduceIte, Nat.reduceEqDiff]); rfl)); (case hH => rfl)))
    (apply awpA_take 1 rfl rfl (by kernel_rfl) (by intro c T H hp; simp [thenA, inBlockA, jumpA, endA] at hp); (case h => exact WInd_index_str _ _ _ _ _ 1 _ rfl rfl rfl (by kernel_rfl) rfl (by simp; first | done | fail)); (apply awpA_cong; (case hT => ((try simp only [wtn, List.append_eq, List.foldl_cons, List.foldl_nil, List.map_cons, List.map_nil, Nat.reduceAdd, Nat.reduceMul, Nat.reduceSub, ↓reduceIte, Nat.reduceEqDiff]); rfl)); (case hH => rfl)))
    (apply awpA_take 3 rfl rfl (by kernel_rfl) (by intro c T H hp; simp [thenA, inBlockA, jumpA, endA] at hp); (case h => (first | exact WInd_mv _ rfl | fail)); (apply awpA_cong; (case hT => ((try simp only [wtn, List.append_eq, List.foldl_cons, List.foldl_nil, List.map_cons, List.map_nil, Nat.reduceAdd, Nat.reduceMul, Nat.reduceSub, ↓reduceIte, Nat.reduceEqDiff]); rfl)); (case hH => rfl)))
    (apply awpA_take 4 rfl rfl (by kernel_rfl) (by intro c T H hp; simp [thenA, inBlockA, jumpA, endA] at hp); (case h => exact WInd_index_str _ _ _ _ _ 2 _ rfl rfl rfl (by kernel_rfl) rfl (by simp; first | done | fail)); (apply awpA_cong; (case hT => ((try simp only [wtn, List.append_eq, List.foldl_cons, List.foldl_nil, List.map_cons, List.map_nil, Nat.reduceAdd, Nat.reduceMul, Nat.reduceSub, ↓reduceIte, Nat.reduceEqDiff]); rfl)); (case hH => rfl)))
    (refine awpA_1 2 (by decide +kernel) rfl rfl ?_; (first | (apply Stp_evl; (case h => ((apply Evl_k 11 rfl; (exact Evl_call 90 Tryd.f90 _ _ rfl rfl Tryd.func90 (by decide) rfl (VwL.refl _ _) (hex_s a))))); (apply awpA_cong; (case hT => ((try simp only [wtn, List.append_eq, List.foldl_cons, List.foldl_nil, List.map_cons, List.map_nil, Nat.reduceAdd, Nat.reduceMul, Nat.reduceSub, ↓reduceIte, Nat.reduceEqDiff]); rfl)); (case hH => rfl))) | fail))
    (refine awpA_1 5 (by decide +kernel) rfl rfl ?_; (first | (apply Stp_evl; (case h => ((apply Evl_k 11 rfl; (exact Evl_call 90 Tryd.f90 _ _ rfl rfl Tryd.func90 (by decide) rfl (VwL.refl _ _) (hex_s b))))); (apply awpA_cong; (case hT => ((try simp only [wtn, List.append_eq, List.foldl_cons, List.foldl_nil, List.map_cons, List.map_nil, Nat.reduceAdd, Nat.reduceMul, Nat.reduceSub, ↓reduceIte, Nat.reduceEqDiff]); rfl)); (case hH => rfl))) | fail))
    (refine awpA_1 6 (by decide +kernel) rfl rfl ?_; (first | (apply Stp_evl; (case h => ((apply Evl_k 0 rfl; (exact Evl_as _ rfl)))); (apply awpA_cong; (case hT => ((try simp only [wtn, List.append_eq, List.foldl_cons, List.foldl_nil, List.map_cons, List.map_nil, Nat.reduceAdd, Nat.reduceMul, Nat.reduceSub, ↓reduceIte, Nat.reduceEqDiff]); rfl)); (case hH => rfl))) | fail))
    (refine awpA_1 7 (by decide +kernel) rfl rfl ?_; (first | (apply Stp_evl; (case h => ((apply Evl_k 0 rfl; (exact Evl_as _ rfl)))); (apply awpA_cong; (case hT => ((try simp only [wtn, List.append_eq, List.foldl_cons, List.foldl_nil, List.map_cons, List.map_nil, Nat.reduceAdd, Nat.reduceMul, Nat.reduceSub, ↓reduceIte, Nat.reduceEqDiff]); rfl)); (case hH => rfl))) | fail))
    refine awpA_done (by decide +kernel) ?_
    cases ha : hexv a with
    | none =>
      have e1 := hexI_none ha
      simp only [e1]
      (repeat' (first | with_reducible (first | refine awp_seq ?_ | refine awp_region ?_ | refine awp_ret ?_ | refine awpL_nil ?_ | refine thenA_normal ?_ | refine thenA_ret ?_ | refine inBlockA_ret ?_) | (refine awp_cond _ rfl (fun h => ?_) (fun h => ?_) <;> first | (exact absurd h (by decide)) | ((try (simp only [whn] at h)); skip)) | ((apply awpL_gf rfl rfl rfl); (case hT => ((try simp only [wtn, List.append_eq, List.foldl_cons, List.foldl_nil, List.map_cons, List.map_nil, Nat.reduceAdd, Nat.reduceMul, Nat.reduceSub, ↓reduceIte, Nat.reduceEqDiff]); rfl))) | ((apply awpL_evl2 rfl); (case h => ((try (intro (hp : (_ : Bool) = true); ((try simp only [Bool.and_eq_true, Bool.not_eq_true', Bool.not_eq_true] at hp); (try simp only [hp, wte]); (try simp only [whn] at hp)))); (first | (apply Evl_k 0 rfl; (first | exact Evl_mv _ rfl | exact Evl_as _ rfl)) | (apply Evl_k 1 rfl; (exact Evl_pickt _ _ _ rfl rfl)) | (apply Evl_x; (case hs => (intro _ _ h; cases h)); (case hx => rfl); (case hrun => (intro w; simp [wtb, AV.val, go_sem]; (try go_bits); rfl)))))); (case hT => ((try simp only [wtn, List.append_eq, List.foldl_cons, List.foldl_nil, List.map_cons, List.map_nil, Nat.reduceAdd, Nat.reduceMul, Nat.reduceSub, ↓reduceIte, Nat.reduceEqDiff]); rfl))) | fail))
      have e : escR (c :: a :: b :: r') = (0, 0) := escR_none (by rw [escd_x c a b r' (by omega), ha]; rfl)
      rw [e]
      exact endA_ret _ _ (Res2 rfl (RV.tmp _) (RV.tmp _) (Weak.mk' [] [] (List.Perm.refl _) VwHs.nil (VwL.refl _ _))) ⟨rfl, rfl⟩
    | some p =>
      have e1 := hexI_some ha
      have hp := hexv_lt ha
      cases hb : hexv b with
      | none =>
        have e2 := hexI_none hb
        simp only [e1, e2]
        (repeat' (first | with_reducible (first | refine awp_seq ?_ | refine awp_region ?_ | refine awp_ret ?_ | refine awpL_nil ?_ | refine thenA_normal ?_ | refine thenA_ret ?_ | refine inBlockA_ret ?_) | (refine awp_cond _ rfl (fun h => ?_) (fun h => ?_) <;> first | (exact absurd h (by decide)) | ((try (simp only [whn] at h)); skip)) | ((first | apply awpL_evl2 rfl | apply awpL_g2 _ _ rfl rfl rfl); (case h => ((try (intro (hp : (_ : Bool) = true); ((try simp only [Bool.and_eq_true, Bool.not_eq_true', Bool.not_eq_true] at hp); (try simp only [hp, wte]); (try simp only [whn] at hp)))); (first | (apply Evl_k 0 rfl; (first | exact Evl_mv _ rfl | exact Evl_as _ rfl)) | (apply Evl_k 1 rfl; (exact Evl_pickf _ _ _ rfl rfl)) | (apply Evl_x; (case hs => (intro _ _ h; cases h)); (case hx => rfl); (case hrun => (intro w; simp [wtb, AV.val, go_sem]; (try go_bits); rfl)))))); (case hT => ((try simp only [wtn, List.append_eq, List.foldl_cons, List.foldl_nil, List.map_cons, List.map_nil, Nat.reduceAdd, Nat.reduceMul, Nat.reduceSub, ↓reduceIte, Nat.reduceEqDiff]); rfl))) | fail))
        have e : escR (c :: a :: b :: r') = (0, 0) := escR_none (by rw [escd_x c a b r' (by omega), ha, hb]; rfl)
        rw [e]
        exact endA_ret _ _ (Res2 rfl (RV.tmp _) (RV.tmp _) (Weak.mk' [] [] (List.Perm.refl _) VwHs.nil (VwL.refl _ _))) ⟨rfl, rfl⟩
      | some q =>
        have e2 := hexI_some hb
        have hq := hexv_lt hb
        simp only [e1, e2]
        (repeat' (first | with_reducible (first | refine awp_seq ?_ | refine awp_region ?_ | refine awp_ret ?_ | refine awp_skip ?_ | refine awpL_nil ?_ | refine thenA_normal ?_ | refine thenA_ret ?_ | refine inBlockA_ret ?_) | (refine awp_cond _ rfl (fun h => ?_) (fun h => ?_) <;> ((try (simp only [whn] at h)); first | (exfalso; omega; done) | skip)) | ((first | apply awpL_evl2 rfl | apply awpL_g2 _ _ rfl rfl rfl); (case h => ((try (intro (hp : (_ : Bool) = true); ((try simp only [Bool.and_eq_true, Bool.not_eq_true', Bool.not_eq_true] at hp); (try simp only [hp, wte]); (try simp only [whn] at hp)))); (first | (apply Evl_k 0 rfl; (first | exact Evl_mv _ rfl | exact Evl_as _ rfl)) | (apply Evl_k 1 rfl; (exact Evl_pickf _ _ _ rfl rfl)) | (apply Evl_x; (case hs => (intro _ _ h; cases h)); (case hx => rfl); (case hrun => (intro w; simp [wtb, AV.val, go_sem]; (try go_bits); rfl)))))); (case hT => ((try simp only [wtn, List.append_eq, List.foldl_cons, List.foldl_nil, List.map_cons, List.map_nil, Nat.reduceAdd, Nat.reduceMul, Nat.reduceSub, ↓reduceIte, Nat.reduceEqDiff]); rfl))) | fail))
        have e : escR (c :: a :: b :: r') = (UInt8.ofNat (16 * p + q), 3) := escR_some (by rw [escd_x c a b r' (by omega), ha, hb]; rfl)
        have e4 := or4 hp hq
        rw [e, ← e4]
        exact endA_ret _ _ (Res2 rfl (RV.tmp _) (RV.tmp _) (Weak.mk' [] [] (List.Perm.refl _) VwHs.nil (VwL.refl _ _))) ⟨rfl, rfl⟩
  all_goals first
    | (rw [escR_some (escd_mark c r (by omega))]; exact endA_ret _ _ (Res2 rfl (RV.tmp _) (RV.tmp _) (Weak.mk' [] [] (List.Perm.refl _) VwHs.nil (VwL.refl _ _))) ⟨rfl, rfl⟩)
    | (rw [escR_some (escd_n c r (by omega))]; exact endA_ret _ _ (Res2 rfl (RV.tmp _) (RV.tmp _) (Weak.mk' [] [] (List.Perm.refl _) VwHs.nil (VwL.refl _ _))) ⟨rfl, rfl⟩)
    | (rw [escR_some (escd_t c r (by omega))]; exact endA_ret _ _ (Res2 rfl (RV.tmp _) (RV.tmp _) (Weak.mk' [] [] (List.Perm.refl _) VwHs.nil (VwL.refl _ _))) ⟨rfl, rfl⟩)
    | (have e : escR (c :: r) = (0, 0) := by
         match r, h with
         | [], _ => exact escR_none (escd_x0 c (by omega))
         | [a], _ => exact escR_none (escd_x1 c a (by omega))
         | a :: b :: r', h => simp at h; omega
       rw [e]; exact endA_ret _ _ (Res2 rfl (RV.tmp _) (RV.tmp _) (Weak.mk' [] [] (List.Perm.refl _) VwHs.nil (VwL.refl _ _))) ⟨rfl, rfl⟩)
    | (rw [escR_none (escd_no c r (by omega))]; exact endA_ret _ _ (Res2 rfl (RV.tmp _) (RV.tmp _) (Weak.mk' [] [] (List.Perm.refl _) VwHs.nil (VwL.refl _ _))) ⟨rfl, rfl⟩)
    | trace_state
theorem escaped_s (l : List UInt8) (hl : l.length ≤ 1000000) : Spec Tryd.prog 80 [] [.x (.string (bs l))] (fun q H' => q = .tup [.x (.int .u8 ((escR l).1.toNat : Nat)), .x (.int .i64 ((escR l).2 : Nat))] ∧ H' = []) := by
  cases l with
  | nil => exact escaped_nil
  | cons c r => exact escaped_cons c r (by simp at hl; omega)
end Go.Proofs.YtfaljkenmbbbaaaDoor
