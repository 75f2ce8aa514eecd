import Derived.Test.YtkhhlmonhapmaaaGreatDoorW5
import Derived.Test.YtkhhlmonhapmaaaGreatDoorRows
import Derived.Test.YtkhhlmonhapmaaaGreatDoorW0
/- A walk over symbolic memory: tests against nil, appends to a part of a row. No program in sight. -/
set_option linter.unusedSimpArgs false
set_option linter.unusedVariables false
namespace Go.Proofs.YtkhhlmonhapmaaaGreatDoor
open Go.RowKit
section
variable {P : Program} {Δ : List Deferred} {V O : Nat → Prop} {w0 w w' : World} {H H' D : List Hp} {T T' : List AV} {a : Act} {o : Oper} {K : List AV → List Hp → Prop} {ρ : Operand → AV} {ops : Array Oper} {Q : Post} {F : Nat → Prop}
end
end Go.Proofs.YtkhhlmonhapmaaaGreatDoor
namespace Go.Proofs.YtkhhlmonhapmaaaGreatDoor
open Go.RowKit
set_option linter.defProp false
/-! Where a block of the call's own stands. -/
class FBox (H : List Hp) (b : Nat) (p : outParam Nat) (cells : outParam (List AV)) : Prop where out : H[p]? = some (.box b cells)
instance {x : Hp} {H : List Hp} {b p : Nat} {cells : List AV} [h : FBox H b p cells] : FBox (x :: H) b (p + 1) cells := ⟨by simpa using h.out⟩
instance {H : List Hp} {b : Nat} {cells : List AV} : FBox (.box b cells :: H) b 0 cells := ⟨rfl⟩
class FRow (H : List Hp) (ad : Option Addr) (p n cap : outParam Nat) (e : outParam TypeId) (size : outParam Nat) (cells : outParam (List AV)) : Prop where out : H[p]? = some (.row ad n cap e size cells)
instance {x : Hp} {H : List Hp} {ad : Option Addr} {p n cap : Nat} {e : TypeId} {size : Nat} {cells : List AV} [h : FRow H ad p n cap e size cells] : FRow (x :: H) ad (p + 1) n cap e size cells := ⟨by simpa using h.out⟩
instance {H : List Hp} {ad : Option Addr} {n cap : Nat} {e : TypeId} {size : Nat} {cells : List AV} : FRow (.row ad n cap e size cells :: H) ad 0 n cap e size cells := ⟨rfl⟩
/-! The rules. -/
theorem ev_tmp (T : List AV) (t : Nat) : ev T (.tmp t) = T.getD t .top := rfl
theorem ev_const (T : List AV) (v : Value) : ev T (.const v) = .x v := rfl
theorem ev_global (T : List AV) (g : Nat) : ev T (.global g) = .x (.pointer (some ⟨g, 0, none⟩)) := rfl
theorem ev_func (T : List AV) (f : Nat) : ev T (.func f) = .x (.func (.func f) #[] #[]) := rfl
theorem evs_eq (T : List AV) (x : Operand) : evs T x = str (ev T x) := rfl
theorem str_g (v : AV) : str (.g true v) = v := rfl
theorem str_gf (v : AV) : str (.g false v) = .g false v := rfl
theorem str_x (v : Value) : str (.x v) = .x v := rfl
theorem str_top : str .top = .top := rfl
theorem str_sq (n : Nat) (l : List AV) : str (.sq n l) = .sq n l := rfl
theorem str_at (l : List AV) : str (.at_ l) = .at_ l := rfl
theorem str_agg (l : List AV) : str (.agg l) = .agg l := rfl
theorem str_tup (l : List AV) : str (.tup l) = .tup l := rfl
theorem str_ifc (t : TypeId) (v : AV) : str (.ifc t v) = .ifc t v := rfl
theorem putT_some (T : List AV) (d : Nat) (av : AV) : putT T (some d) av = T.set d av := rfl
theorem putT_none (T : List AV) (av : AV) : putT T none av = T := rfl
theorem val_x (v : Value) : AV.val (.x v) = v := rfl
theorem ldA_t (n : Nat) (l : List AV) : ldA true n l = mkA (l.take n) := rfl
theorem ldA_f (n : Nat) (l : List AV) : ldA false n l = l.getD 0 .top := rfl
theorem mkA_eq (l : List AV) : mkA l = if l.all AV.ex then .x (.agg (l.map AV.val).toArray) else .agg l := rfl
def wtb := And.intro ev_tmp (And.intro ev_const (And.intro ev_global (And.intro ev_func (And.intro evs_eq (And.intro str_g (And.intro str_gf (And.intro str_x (And.intro str_top (And.intro str_sq (And.intro str_at (And.intro str_agg (And.intro str_tup (And.intro str_ifc (And.intro putT_some (And.intro putT_none val_x)))))))))))))))
def wtc := And.intro cells_int (And.intro cells_bool (And.intro cells_string (And.intro cells_slice (And.intro cells_pointer (And.intro cells_nilIface (And.intro cells_iface (And.intro cells_func (And.intro cells_sq (And.intro cells_at (And.intro cells_ifc (And.intro cells_agg cells_aggx)))))))))))
def wtd := And.intro ldA_t (And.intro ldA_f (And.intro mkA_eq (And.intro ex_x (And.intro ex_sq (And.intro ex_at (And.intro ex_ifc (And.intro vc_int (And.intro vc_bool (And.intro vc_string (And.intro vc_slice (And.intro vc_agg (And.intro spl_succ spl_zero))))))))))))
def wte := And.intro (@Bool.and_false) (And.intro (@Bool.false_and) (And.intro (@Bool.and_true) (And.intro (@Bool.true_and) (And.intro Bool.false_eq_true (And.intro Bool.not_true (And.intro Bool.not_false Int.toNat_natCast))))))
def wtl := And.intro (@List.all_cons.{0}) (And.intro (@List.all_nil.{0}) (And.intro (@List.replicate_succ.{0}) (And.intro (@List.replicate_zero.{0}) (And.intro (@List.flatten_cons.{0}) (And.intro (@List.flatten_nil.{0}) (And.intro (@List.drop_nil.{0}) (And.intro (@List.set_cons_zero.{0}) (And.intro (@List.set_cons_succ.{0}) (And.intro (@List.getD_cons_zero.{0}) (And.intro (@List.getD_cons_succ.{0}) (And.intro (@List.nil_append.{0}) (And.intro (@List.cons_append.{0}) (And.intro (@List.append_nil.{0}) (And.intro (@List.drop_zero.{0}) (And.intro (@List.drop_succ_cons.{0}) (And.intro (@List.take_zero.{0}) (And.intro (@List.take_succ_cons.{0}) (And.intro (@List.map_cons.{0, 0}) (And.intro (@List.map_nil.{0, 0}) (And.intro (@List.length_cons.{0}) (And.intro (@List.length_nil.{0}) (And.intro Nat.zero_add (And.intro Nat.mul_one Nat.add_zero)))))))))))))))))))))))
def wtn := And.intro wtb (And.intro wtc (And.intro wtd (And.intro wte wtl)))
def won := And.intro one_x (And.intro one_sq (And.intro one_at one_ifc))
def wlq := And.intro wtb wtc
def whn := And.intro (@decide_eq_true_eq) (And.intro (@decide_eq_false_iff_not) (And.intro (@beq_iff_eq.{0}) (And.intro (@beq_eq_false_iff_ne.{0}) (And.intro (@bne_iff_ne.{0}) (And.intro (@bne_eq_false_iff_eq.{0}) (And.intro (@Bool.not_eq_true) (And.intro (@Bool.not_eq_false) (And.intro (@Bool.not_eq_true') (And.intro (@Bool.not_eq_false') (And.intro Bool.not_true (And.intro Bool.not_false (And.intro (@Bool.and_eq_true) (And.intro (@Bool.or_eq_true) (And.intro (@Bool.and_eq_false_iff) (And.intro (@Bool.or_eq_false_iff) (@ne_eq.{1}))))))))))))))))
end Go.Proofs.YtkhhlmonhapmaaaGreatDoor
namespace Go.Proofs.YtkhhlmonhapmaaaGreatDoor
set_option maxRecDepth 100000
instance : HAgg Tryz.prog 3 false 1 := ⟨by kernel_rfl⟩
instance : HSize Tryz.prog 3 1 := ⟨by kernel_rfl⟩
instance : HAgg Tryz.prog 4 false 1 := ⟨by kernel_rfl⟩
instance : HSize Tryz.prog 4 1 := ⟨by kernel_rfl⟩
instance : HAgg Tryz.prog 5 false 1 := ⟨by kernel_rfl⟩
instance : HSize Tryz.prog 5 1 := ⟨by kernel_rfl⟩
instance : HAgg Tryz.prog 9 false 1 := ⟨by kernel_rfl⟩
instance : HSize Tryz.prog 9 1 := ⟨by kernel_rfl⟩
instance : HAgg Tryz.prog 22 false 1 := ⟨by kernel_rfl⟩
instance : HEl Tryz.prog 22 3 1 := ⟨by kernel_rfl⟩
instance : HElem Tryz.prog 22 3 (Value.int IntKind.i64 0) 1 8 := ⟨⟨by kernel_rfl, by kernel_rfl, rfl, by decide⟩⟩
instance : HAgg Tryz.prog 28 false 1 := ⟨by kernel_rfl⟩
instance : HSize Tryz.prog 28 1 := ⟨by kernel_rfl⟩
instance : HEl Tryz.prog 28 9 1 := ⟨by kernel_rfl⟩
instance : HElem Tryz.prog 28 9 (Value.string ⟨#[]⟩) 1 16 := ⟨⟨by kernel_rfl, by kernel_rfl, rfl, by decide⟩⟩
instance : HAgg Tryz.prog 29 false 1 := ⟨by kernel_rfl⟩
instance : HSize Tryz.prog 29 1 := ⟨by kernel_rfl⟩
instance : HEl Tryz.prog 29 51 15 := ⟨by kernel_rfl⟩
instance : HElem Tryz.prog 29 51 (Value.agg #[Value.string ⟨#[]⟩, Value.string ⟨#[]⟩, Value.slice none 0 0, Value.slice none 0 0, Value.bool false, Value.string ⟨#[]⟩, Value.int IntKind.i64 0, Value.int IntKind.u64 0, Value.int IntKind.u64 0, Value.int IntKind.u64 0, Value.int IntKind.i64 0, Value.int IntKind.u64 0, Value.slice none 0 0, Value.int IntKind.i64 0, Value.int IntKind.i64 0]) 15 192 := ⟨⟨by kernel_rfl, by kernel_rfl, rfl, by decide⟩⟩
instance : HZero Tryz.prog 29 ((Value.slice none 0 0)) := ⟨by kernel_rfl⟩
instance : HAgg Tryz.prog 30 false 1 := ⟨by kernel_rfl⟩
instance : HSize Tryz.prog 30 1 := ⟨by kernel_rfl⟩
instance : HAgg Tryz.prog 32 true 3 := ⟨by kernel_rfl⟩
instance : HSize Tryz.prog 32 3 := ⟨by kernel_rfl⟩
instance : HPl Tryz.prog 32 [(0, 1), (1, 1), (2, 1)] [Value.int IntKind.i64 0, Value.int IntKind.i64 0, Value.int IntKind.i64 0] := ⟨by kernel_rfl⟩
instance : HZero Tryz.prog 32 ((Value.agg #[Value.int IntKind.i64 0, Value.int IntKind.i64 0, Value.int IntKind.i64 0])) := ⟨by kernel_rfl⟩
instance : HFld Tryz.prog 32 0 0 := ⟨by kernel_rfl⟩
instance : HFld Tryz.prog 32 1 1 := ⟨by kernel_rfl⟩
instance : HFld Tryz.prog 32 2 2 := ⟨by kernel_rfl⟩
instance : HAgg Tryz.prog 46 false 1 := ⟨by kernel_rfl⟩
instance : HAgg Tryz.prog 47 false 1 := ⟨by kernel_rfl⟩
instance : HSize Tryz.prog 47 1 := ⟨by kernel_rfl⟩
instance : HEl Tryz.prog 47 55 2 := ⟨by kernel_rfl⟩
instance : HElem Tryz.prog 47 55 (Value.agg #[Value.string ⟨#[]⟩, Value.string ⟨#[]⟩]) 2 32 := ⟨⟨by kernel_rfl, by kernel_rfl, rfl, by decide⟩⟩
instance : HAgg Tryz.prog 48 false 1 := ⟨by kernel_rfl⟩
instance : HSize Tryz.prog 48 1 := ⟨by kernel_rfl⟩
instance : HAgg Tryz.prog 49 false 1 := ⟨by kernel_rfl⟩
instance : HSize Tryz.prog 49 1 := ⟨by kernel_rfl⟩
instance : HEl Tryz.prog 49 53 2 := ⟨by kernel_rfl⟩
instance : HElem Tryz.prog 49 53 (Value.agg #[Value.int IntKind.i64 0, Value.int IntKind.u64 0]) 2 16 := ⟨⟨by kernel_rfl, by kernel_rfl, rfl, by decide⟩⟩
instance : HAgg Tryz.prog 51 true 15 := ⟨by kernel_rfl⟩
instance : HSize Tryz.prog 51 15 := ⟨by kernel_rfl⟩
instance : HPl Tryz.prog 51 [(0, 1), (1, 1), (2, 1), (3, 1), (4, 1), (5, 1), (6, 1), (7, 1), (8, 1), (9, 1), (10, 1), (11, 1), (12, 1), (13, 1), (14, 1)] [Value.string ⟨#[]⟩, Value.string ⟨#[]⟩, Value.slice none 0 0, Value.slice none 0 0, Value.bool false, Value.string ⟨#[]⟩, Value.int IntKind.i64 0, Value.int IntKind.u64 0, Value.int IntKind.u64 0, Value.int IntKind.u64 0, Value.int IntKind.i64 0, Value.int IntKind.u64 0, Value.slice none 0 0, Value.int IntKind.i64 0, Value.int IntKind.i64 0] := ⟨by kernel_rfl⟩
instance : HZero Tryz.prog 51 ((Value.agg #[Value.string ⟨#[]⟩, Value.string ⟨#[]⟩, Value.slice none 0 0, Value.slice none 0 0, Value.bool false, Value.string ⟨#[]⟩, Value.int IntKind.i64 0, Value.int IntKind.u64 0, Value.int IntKind.u64 0, Value.int IntKind.u64 0, Value.int IntKind.i64 0, Value.int IntKind.u64 0, Value.slice none 0 0, Value.int IntKind.i64 0, Value.int IntKind.i64 0])) := ⟨by kernel_rfl⟩
instance : HFld Tryz.prog 51 0 0 := ⟨by kernel_rfl⟩
instance : HFld Tryz.prog 51 1 1 := ⟨by kernel_rfl⟩
instance : HFld Tryz.prog 51 2 2 := ⟨by kernel_rfl⟩
instance : HFld Tryz.prog 51 3 3 := ⟨by kernel_rfl⟩
instance : HFld Tryz.prog 51 4 4 := ⟨by kernel_rfl⟩
instance : HFld Tryz.prog 51 5 5 := ⟨by kernel_rfl⟩
instance : HFld Tryz.prog 51 6 6 := ⟨by kernel_rfl⟩
instance : HFld Tryz.prog 51 7 7 := ⟨by kernel_rfl⟩
instance : HFld Tryz.prog 51 8 8 := ⟨by kernel_rfl⟩
instance : HFld Tryz.prog 51 9 9 := ⟨by kernel_rfl⟩
instance : HFld Tryz.prog 51 10 10 := ⟨by kernel_rfl⟩
instance : HFld Tryz.prog 51 11 11 := ⟨by kernel_rfl⟩
instance : HFld Tryz.prog 51 12 12 := ⟨by kernel_rfl⟩
instance : HFld Tryz.prog 51 13 13 := ⟨by kernel_rfl⟩
instance : HFld Tryz.prog 51 14 14 := ⟨by kernel_rfl⟩
instance : HAgg Tryz.prog 53 true 2 := ⟨by kernel_rfl⟩
instance : HPl Tryz.prog 53 [(0, 1), (1, 1)] [Value.int IntKind.i64 0, Value.int IntKind.u64 0] := ⟨by kernel_rfl⟩
instance : HFld Tryz.prog 53 0 0 := ⟨by kernel_rfl⟩
instance : HFld Tryz.prog 53 1 1 := ⟨by kernel_rfl⟩
instance : HAgg Tryz.prog 55 true 2 := ⟨by kernel_rfl⟩
instance : HPl Tryz.prog 55 [(0, 1), (1, 1)] [Value.string ⟨#[]⟩, Value.string ⟨#[]⟩] := ⟨by kernel_rfl⟩
instance : HFld Tryz.prog 55 0 0 := ⟨by kernel_rfl⟩
instance : HFld Tryz.prog 55 1 1 := ⟨by kernel_rfl⟩
instance : HPl Tryz.prog 58 [(0, 1), (1, 1)] [Value.slice none 0 0, Value.int IntKind.i64 0] := ⟨by kernel_rfl⟩
instance : HFld Tryz.prog 58 0 0 := ⟨by kernel_rfl⟩
instance : HFld Tryz.prog 58 1 1 := ⟨by kernel_rfl⟩
instance : HEl Tryz.prog 59 5 1 := ⟨by kernel_rfl⟩
instance : HElem Tryz.prog 59 5 (Value.int IntKind.u8 0) 1 1 := ⟨⟨by kernel_rfl, by kernel_rfl, rfl, by decide⟩⟩
instance : HAgg Tryz.prog 62 false 1 := ⟨by kernel_rfl⟩
instance : HEl Tryz.prog 62 70 4 := ⟨by kernel_rfl⟩
instance : HElem Tryz.prog 62 70 (Value.agg #[Value.int IntKind.i64 0, Value.string ⟨#[]⟩, Value.int IntKind.i64 0, Value.int IntKind.i64 0]) 4 40 := ⟨⟨by kernel_rfl, by kernel_rfl, rfl, by decide⟩⟩
instance : HAgg Tryz.prog 66 false 1 := ⟨by kernel_rfl⟩
instance : HPl Tryz.prog 68 [(0, 1), (1, 1)] [Value.slice none 0 0, Value.int IntKind.i64 0] := ⟨by kernel_rfl⟩
instance : HFld Tryz.prog 68 0 0 := ⟨by kernel_rfl⟩
instance : HFld Tryz.prog 68 1 1 := ⟨by kernel_rfl⟩
instance : HAgg Tryz.prog 70 true 4 := ⟨by kernel_rfl⟩
instance : HSize Tryz.prog 70 4 := ⟨by kernel_rfl⟩
instance : HPl Tryz.prog 70 [(0, 1), (1, 1), (2, 1), (3, 1)] [Value.int IntKind.i64 0, Value.string ⟨#[]⟩, Value.int IntKind.i64 0, Value.int IntKind.i64 0] := ⟨by kernel_rfl⟩
instance : HZero Tryz.prog 70 ((Value.agg #[Value.int IntKind.i64 0, Value.string ⟨#[]⟩, Value.int IntKind.i64 0, Value.int IntKind.i64 0])) := ⟨by kernel_rfl⟩
instance : HFld Tryz.prog 70 0 0 := ⟨by kernel_rfl⟩
instance : HFld Tryz.prog 70 1 1 := ⟨by kernel_rfl⟩
instance : HFld Tryz.prog 70 2 2 := ⟨by kernel_rfl⟩
instance : HFld Tryz.prog 70 3 3 := ⟨by kernel_rfl⟩
instance : HPl Tryz.prog 75 [(0, 1), (1, 1), (2, 3), (5, 1)] [Value.slice none 0 0, Value.int IntKind.i64 0, Value.int IntKind.i64 0, Value.int IntKind.i64 0, Value.int IntKind.i64 0, Value.slice none 0 0] := ⟨by kernel_rfl⟩
instance : HFld Tryz.prog 75 0 0 := ⟨by kernel_rfl⟩
instance : HFld Tryz.prog 75 1 1 := ⟨by kernel_rfl⟩
instance : HFld Tryz.prog 75 2 2 := ⟨by kernel_rfl⟩
instance : HFld Tryz.prog 75 3 5 := ⟨by kernel_rfl⟩
instance : HAgg Tryz.prog 85 false 1 := ⟨by kernel_rfl⟩
instance : HZero Tryz.prog 85 ((Value.int IntKind.i64 0)) := ⟨by kernel_rfl⟩
instance : HAgg Tryz.prog 88 false 1 := ⟨by kernel_rfl⟩
instance : HZero Tryz.prog 88 ((Value.pointer none)) := ⟨by kernel_rfl⟩
instance : HPl Tryz.prog 91 [(0, 1), (1, 1), (2, 1)] [Value.int IntKind.i64 0, Value.int IntKind.i64 0, Value.nilIface] := ⟨by kernel_rfl⟩
instance : HFld Tryz.prog 91 0 0 := ⟨by kernel_rfl⟩
instance : HFld Tryz.prog 91 1 1 := ⟨by kernel_rfl⟩
instance : HPl Tryz.prog 118 [(0, 1), (1, 1), (2, 1), (3, 1)] [Value.string ⟨#[]⟩, Value.int IntKind.i64 0, Value.int IntKind.i64 0, Value.int IntKind.i64 0] := ⟨by kernel_rfl⟩
instance : HFld Tryz.prog 118 0 0 := ⟨by kernel_rfl⟩
instance : HFld Tryz.prog 118 1 1 := ⟨by kernel_rfl⟩
instance : HFld Tryz.prog 118 2 2 := ⟨by kernel_rfl⟩
instance : HFld Tryz.prog 118 3 3 := ⟨by kernel_rfl⟩
theorem mixed : Tryz.prog.follows .mixedOrders = true := by kernel_rfl
end Go.Proofs.YtkhhlmonhapmaaaGreatDoor
namespace Go.Proofs.YtkhhlmonhapmaaaGreatDoor
open Go.RowKit
theorem tmod_neg {v n : Int} (hn : 0 < n) (h : v.tmod n < 0) : v.tmod n + n = v % n := by
  rw [Int.tmod_eq_emod] at *
  have := Int.emod_nonneg v (show n ≠ 0 by omega)
  split at h <;> rename_i hc <;> simp [hc] at *
  · omega
  · omega
theorem tmod_pos {v n : Int} (hn : 0 < n) (h : 0 ≤ v.tmod n) : v.tmod n = v % n := by
  rw [Int.tmod_eq_emod] at *
  have := Int.emod_lt_of_pos v hn
  split <;> rename_i hc <;> simp [hc] at *
  omega
theorem ret_i64 {a b : Int} (h : a = b) : Ending.returned (.int .i64 a) = .returned (.int .i64 b) := by rw [h]
set_option maxRecDepth 100000 in
set_option maxHeartbeats 800000 in
theorem mod_any (v n : Int) (w : World) (hn : 1 ≤ n) (hn2 : n ≤ 9223372036854775807) (hv : -9223372036854775808 ≤ v) (hv2 : v ≤ 9223372036854775807) :
    Calls Tryz.prog 20 #[.int .i64 v, .int .i64 n] w fun e w' => e = .returned (.int .i64 (v % n)) ∧ w = w' := by
  have h0 : ¬ n = 0 := by omega
  have h1 : v.tmod n < n := Int.tmod_lt_of_pos v (by omega)
  have h2 : -n < v.tmod n := by
    have := Int.lt_tmod_of_pos v (show 0 < n by omega); omega
  go_enter Tryz.func20, Tryz.ntmps20
  go_wp2
  all_goals go_ret
  · exact ⟨ret_i64 (tmod_neg (by omega) (by assumption)), rfl⟩
  · exact ⟨ret_i64 (tmod_pos (by omega) (by assumption)), rfl⟩
end Go.Proofs.YtkhhlmonhapmaaaGreatDoor
namespace Go.Proofs.YtkhhlmonhapmaaaGreatDoor
open Go.RowKit
section
variable {P : Program} {f : FuncId} {H : List Hp} {args : List AV}
theorem Spec.weak {Q Q2 : AV → List Hp → Prop} (h : Spec P f H args Q) (hq : ∀ r H', Q r H' → ∃ r2 H2, Weak H' [r] H2 [r2] ∧ Q2 r2 H2) : Spec P f H args Q2 := fun V w vs h1 h2 h3 h4 =>
  (h V w vs h1 h2 h3 h4).mono fun e w' ⟨r, H', v, q, he, hd, hok, hfr, hown⟩ => by
    obtain ⟨r2, H2, hw, q2⟩ := hq r H' q
    obtain ⟨k1, k2, k3⟩ := forgetL (vs := [v]) hok (by rw [DenL]; exact ⟨v, [], rfl, hd, by rw [DenL]⟩) hw
    have k2' := k2.get' 0 r2 v rfl rfl
    exact ⟨r2, H2, v, q2, he, k2', k1, hfr, fun x hx k hk => by
      obtain ⟨y, hy, e⟩ := k3 x hx k hk
      exact hown y hy k e⟩
theorem law_walk (h : Spec P f [] args (fun r H' => r = .x (.bool true) ∧ H' = [])) (W : World) (hg : Gw W) (vs : Array Value) (hd : DenL (fun _ => False) W args vs.toList) : Calls P f vs W fun e w' => e = .returned (.bool true) ∧ Ext W w' := by
  have := h (fun _ => False) W vs.toList (fun _ h => h.elim) ⟨by simp, List.Pairwise.nil, by simp⟩ (hd.weak fun k hk => by rcases hk with hk | ⟨x, hx, _⟩; exact hk; cases hx) ⟨fun k _ ⟨x, hx, _⟩ => (by cases hx), hg⟩
  refine this.mono fun e w' ⟨r, H', v, ⟨hr, _⟩, he, hdv, _, hfr, _⟩ => ?_
  subst hr
  rw [Den] at hdv
  subst hdv
  refine ⟨he, Fr.ext ⟨hfr.os, hfr.tape, hfr.output, hfr.size, fun k hk hn => hfr.block k hk fun ⟨x, hx, _⟩ => by cases hx⟩⟩
end
theorem DenL.cons' {F : Nat → Prop} {W : World} {a : AV} {l : List AV} {v : Value} {vs : List Value} (h : Den F W a v) (k : DenL F W l vs) : DenL F W (a :: l) (v :: vs) := by rw [DenL]; exact ⟨v, vs, rfl, h, k⟩
theorem DenL.nil' {F : Nat → Prop} {W : World} : DenL F W [] [] := by rw [DenL]
theorem den_x {F : Nat → Prop} {W : World} (v : Value) : Den F W (.x v) v := by rw [Den]
theorem bs_of_data (s : ByteArray) : bs s.data.toList = s := by cases s; simp [bs]
theorem den_str {F : Nat → Prop} {W : World} (s : ByteArray) : Den F W (.x (.string (bs s.data.toList))) (.string s) := by rw [bs_of_data]; exact den_x _
section
variable {P : Program} {o : Oper} {ρ : Operand → AV} {H : List Hp}
theorem bs_app (a b : List UInt8) : bs a ++ bs b = bs (a ++ b) := by
  apply ByteArray.ext
  simp [bs]
/-! Operations on memory that nobody writes, whose results hang on no memory. -/
theorem WInd_nil_at (x : Operand) (cells : List AV) (ho : o.op = .nilCheck x) (hx : ρ x = .at_ cells) : WInd P o ρ H (.at_ cells) := fun V a w r => by
  have hd := r.ops x (by simp [ho, Op.operands])
  rw [hx] at hd
  have hd' := hd
  rw [Den] at hd
  obtain ⟨b, off, vals, hv, _⟩ := hd
  exact ⟨a.eval x, fun w' => by rw [hv]; simp [execOp, ho, hv], hd'⟩
theorem WInd_field_at (s : TypeId) (x : Operand) (f k : Nat) (cells : List AV) (ho : o.op = .fieldAddr s x f) (hx : ρ x = .at_ cells) (hk : fldT P s f = some k) : WInd P o ρ H (.at_ (cells.drop k)) := fun V a w r => by
  have hd := r.ops x (by simp [ho, Op.operands])
  rw [hx, Den] at hd
  obtain ⟨b, off, vals, hv, hm, hl⟩ := hd
  exact ⟨.pointer (some ⟨b, off + k, none⟩), fun w' => by simp [execOp, ho, hv, run_fieldAt s f k hk], by rw [Den]; exact ⟨b, off + k, vals.drop k, rfl, hm.drop k, hl.drop k⟩⟩
theorem WInd_index_sq (t e : TypeId) (x y : Operand) (size n : Nat) (k : IntKind) (i : Int) (j : Nat) (cells : List AV) (ho : o.op = .indexAddr t x y) (hx : ρ x = .sq n cells) (hy : ρ y = .x (.int k i)) (ht : elT P t = some (e, size)) (hi : i = (j : Int)) (h1 : j < n) (hc : 0 < cells.length) : WInd P o ρ H (.at_ (cells.drop (j * size))) := by
  subst hi
  intro V a w r
  have hd := r.ops x (by simp [ho, Op.operands])
  rw [hx, Den] at hd
  obtain ⟨ad, cap, vals, hv, h2, h3, h4, hm, hl⟩ := hd
  have hm' := hm
  rcases hm with rfl | ⟨b, off, rfl, hb, hcl⟩
  · have := hl.len; simp at this; omega
  · refine ⟨.pointer (some ⟨b, off + j * size, none⟩), fun w' => by simp [execOp, ho, hv, r.evx (x := y) (by simp [ho, Op.operands]) hy, run_indexAt t e size ht b off n cap k j (by omega) (by omega)], ?_⟩
    rw [Den]
    exact ⟨b, _, vals.drop (j * size), rfl, hm'.drop (j * size), hl.drop (j * size)⟩
theorem Evl_concat {x y : Operand} (t t2 : TypeId) (a b : List UInt8) (ho : o.op = .binOp .add t x y t2) (hx : ρ x = .x (.string (bs a))) (hy : ρ y = .x (.string (bs b))) (hl : a.length + b.length ≤ 1000000000) : Evl P o ρ H (.x (.string (bs (a ++ b)))) := by
  apply Evl_x
  case hs => (intro cs b h; rw [ho] at h; cases h)
  case hx => simp [ho, Op.operands, hx, hy, AV.ex]
  case hrun =>
    intro w
    have h1 : (bs a).size = a.length := by simp [bs, ByteArray.size]
    have h2 : (bs b).size = b.length := by simp [bs, ByteArray.size]
    have h3 : (a.length : Int) + (b.length : Int) ≤ 9223372036854775807 := by omega
    simp [execOp, ho, hx, hy, AV.val, go_sem, Op.stringOp, h1, h2, h3, bs_app]
end
end Go.Proofs.YtkhhlmonhapmaaaGreatDoor
namespace Go.Proofs.YtkhhlmonhapmaaaGreatDoor
open Go.RowKit
theorem take_snoc' {α : Type} (l : List α) (k : Nat) (h : k < l.length) : l.take (k + 1) = l.take k ++ [l[k]] := by
  rw [List.take_succ_eq_append_getElem h]
def sa (l : List (List UInt8)) : List AV := l.map fun s => .x (.string (bs s))
@[simp] theorem sa_len (l : List (List UInt8)) : (sa l).length = l.length := by simp [sa]
theorem sa_drop (l : List (List UInt8)) (k : Nat) (h : k < l.length) : (sa l).drop k = .x (.string (bs l[k])) :: sa (l.drop (k + 1)) := by
  rw [sa, ← List.map_drop, List.drop_eq_getElem_cons h]; rfl
theorem sa_app (l m : List (List UInt8)) : sa (l ++ m) = sa l ++ sa m := by simp [sa]
theorem u8a_one (v : Int) (h0 : 0 ≤ v) (h1 : v < 256) : u8a [UInt8.ofNat v.toNat] = [.x (.int .u8 v)] := by
  have e : (UInt8.ofNat v.toNat).toNat = v.toNat := by
    rw [UInt8.toNat_ofNat']
    exact Nat.mod_eq_of_lt (by omega)
  simp [u8a, u8s, e]
  omega
theorem Src.chr {ρ : Operand → AV} {H : List Hp} {x : Operand} (q : Nat) {ad : Option Addr} {cap : Nat} {e : TypeId} {size : Nat} (v : Int) (h0 : 0 ≤ v) (h1 : v < 256) (hx : ρ x = .x (.slice ad 1 cap)) (hq : H[q]? = some (.row ad 1 cap e size [.x (.int .u8 v)])) :
    Src ρ H x [UInt8.ofNat v.toNat].length (u8a [UInt8.ofNat v.toNat]) := by
  rw [u8a_one v h0 h1]; exact Src.row q hx hq
theorem u8a_app (l m : List UInt8) : u8a (l ++ m) = u8a l ++ u8a m := by simp [u8a, u8s]
theorem u8a_cons (b : UInt8) (l : List UInt8) : u8a (b :: l) = .x (.int .u8 (b.toNat : Nat)) :: u8a l := by simp [u8a, u8s]
theorem u8a_nil : u8a [] = [] := rfl
end Go.Proofs.YtkhhlmonhapmaaaGreatDoor
namespace Go.Proofs.YtkhhlmonhapmaaaGreatDoor
open Go.RowKit
def ia (l : List Int) : List AV := l.map fun n => .x (.int .i64 n)
@[simp] theorem ia_len (l : List Int) : (ia l).length = l.length := by simp [ia]
theorem ia_drop (l : List Int) (k : Nat) (h : k < l.length) : (ia l).drop k = .x (.int .i64 l[k]) :: ia (l.drop (k + 1)) := by
  rw [ia, ← List.map_drop, List.drop_eq_getElem_cons h]; rfl
def deck (b : Nat) (l : List Int) (k : Nat) : Hp := .box b [.sq l.length (ia l), .x (.int .i64 k)]
set_option maxRecDepth 100000 in
set_option maxHeartbeats 8000000 in
theorem left_spec (b : Nat) (l : List Int) (k : Nat) (hl : l.length ≤ 140737488355328) : Spec Tryz.prog 18 [deck b l k] [.x (.pointer (some ⟨b, 0, none⟩))] (fun r H' => r = .x (.bool (decide (k < l.length))) ∧ H' = [deck b l k]) := by
  unfold deck
  refine Spec_of Tryz.func18 rfl ?_
  simp only [Tryz.ntmps18, List.length_cons, List.length_nil, List.replicate_succ, List.replicate_zero, List.cons_append, List.nil_append, Nat.reduceAdd, Nat.reduceSub]
  (repeat' (first | with_reducible (first | refine awp_seq ?_ | refine awp_region ?_ | refine awp_ret ?_ | refine awpL_nil ?_ | refine dr_nil ?_ | refine thenA_normal ?_) | (with_reducible refine awp_drawnQ mixed ?_ ?_; (decide +kernel)) | ((first | apply awpL_evl2 rfl | apply dr_evl2 rfl); (case h => ((first | (apply Evl_k 0 rfl; (first | exact Evl_mv _ rfl | exact Evl_as _ rfl)) | (apply Evl_k 3 rfl; (exact Evl_len _ _ _ _ _ _ HEl.out rfl rfl)) | (apply Evl_k 4 rfl; (exact Evl_nil _ rfl (by first | exact .inl ⟨_, rfl⟩ | fail))) | (apply Evl_k 5 rfl; (exact Evl_field_x _ _ _ _ _ _ rfl rfl HFld.out)) | (apply Evl_k 6 rfl; (exact Evl_load _ _ _ _ _ _ _ _ rfl rfl FBox.out HAgg.out (by first | exact Nat.le_of_ble_eq_true rfl | fail) (by first | exact Nat.le_of_ble_eq_true rfl | fail))) | (apply Evl_x; (case hs => (intro _ _ h; cases h)); (case hx => rfl); (case hrun => (intro w; simp [wtb, AV.val, go_sem]; skip; rfl)))))); (case hT => ((try simp only [wtn]); rfl))) | fail))
  refine endA_ret _ _ (Res1 rfl (RV.tmp _) (Weak.mk' [] _ (List.Perm.refl _) (VwHs.refl _ _) (VwL.refl _ _))) ?_
  exact ⟨rfl, rfl⟩
theorem mod_spec (v n : Int) (hn : 1 ≤ n) (hn2 : n ≤ 9223372036854775807) (hv : -9223372036854775808 ≤ v ∧ v ≤ 9223372036854775807) (H : List Hp) : Spec Tryz.prog 20 H [.x (.int .i64 v), .x (.int .i64 n)] (fun r H' => r = .x (.int .i64 (v % n)) ∧ H' = H) :=
  Spec_calls (args := [.int .i64 v, .int .i64 n]) (fun w => (mod_any v n w hn hn2 hv.1 hv.2).mono fun e w' ⟨h1, h2⟩ => ⟨h1, h2 ▸ Below.refl _ _⟩) H
def nextv (l : List Int) (k : Nat) (n : Nat) : Int := if h : k < l.length then l[k] % n else 0
def I64 (l : List Int) : Prop := ∀ x ∈ l, -9223372036854775808 ≤ x ∧ x ≤ 9223372036854775807
set_option maxRecDepth 100000 in
set_option maxHeartbeats 8000000 in
theorem next_spec (b : Nat) (l : List Int) (k n : Nat) (hl : l.length ≤ 140737488355328) (hk : k ≤ l.length) (hn : 1 ≤ n) (hn2 : n ≤ 1000000) (hI : I64 l) : Spec Tryz.prog 19 [deck b l k] [.x (.pointer (some ⟨b, 0, none⟩)), .x (.int .i64 n)] (fun r H' => r = .x (.int .i64 (nextv l k n)) ∧ H' = [deck b l (min (k + 1) l.length)]) := by
  have hI := Lib.hid hI
  have hd : deck b l k = .box b [.sq l.length (ia l), .x (.int .i64 k)] := rfl
  rw [hd]
  refine Spec_of Tryz.func19 rfl ?_
  simp only [Tryz.ntmps19, List.length_cons, List.length_nil, List.replicate_succ, List.replicate_zero, List.cons_append, List.nil_append, Nat.reduceAdd, Nat.reduceSub]
  (repeat' (first | with_reducible (first | refine awp_seq ?_ | refine awp_region ?_ | refine awp_ret ?_ | refine awp_skip ?_ | refine awpL_nil ?_ | refine dr_nil ?_ | refine thenA_normal ?_ | refine thenA_ret ?_) | (with_reducible refine awp_drawnQ mixed ?_ ?_; (decide +kernel)) | (refine awp_cond _ rfl (fun h => ?_) (fun h => ?_) <;> ((try (simp only [whn] at h)); skip)) | ((first | apply awpL_evl2 rfl | apply dr_evl2 rfl); (case h => ((first | (apply Evl_k 0 rfl; (first | exact Evl_mv _ rfl | exact Evl_as _ rfl)) | (apply Evl_k 4 rfl; (exact Evl_nil _ rfl (by first | exact .inl ⟨_, rfl⟩ | fail))) | (apply Evl_k 5 rfl; (exact Evl_field_x _ _ _ _ _ _ rfl rfl HFld.out)) | (apply Evl_k 6 rfl; (first | exact Evl_load_at _ _ _ _ _ rfl rfl HAgg.out (by first | exact Nat.le_of_ble_eq_true rfl | fail) (by first | exact Nat.le_of_ble_eq_true rfl | fail) | exact Evl_load _ _ _ _ _ _ _ _ rfl rfl FBox.out HAgg.out (by first | exact Nat.le_of_ble_eq_true rfl | fail) (by first | exact Nat.le_of_ble_eq_true rfl | fail))) | (apply Evl_k 7 rfl; (exact Evl_index_sq _ _ _ _ _ _ _ _ _ _ rfl rfl rfl HEl.out rfl (by first | omega | fail) (by simp; first | omega | fail))) | (apply Evl_k 11 rfl; (exact Evl_call 20 Tryz.f20 _ _ rfl rfl Tryz.func20 (by decide) rfl (VwL.refl _ _) (mod_spec _ _ (by omega) (by omega) (hI.out _ (List.getElem_mem _)) []))) | (apply Evl_x; (case hs => (intro _ _ h; cases h)); (case hx => rfl); (case hrun => (intro w; simp [wtb, AV.val, go_sem]; (try go_bits); rfl)))))); (case hT => ((try simp (disch := assumption) only [wtn, deck, ia_drop, List.append_eq, List.foldl_cons, List.foldl_nil, List.map_cons, List.map_nil, Nat.reduceAdd, Nat.reduceMul, Nat.reduceSub, ↓reduceIte, Nat.reduceEqDiff]); rfl))) | (refine awpL_cons rfl ?_; ((first | (refine Stp_k 11 rfl ?_; ((refine Stp_call 18 Tryz.f18 ([deck b l k]) _ _ _ rfl rfl Tryz.func18 (by decide) rfl (List.Perm.refl _) (VwL.refl _ _) (left_spec b l k hl) ?_; rintro _ _ ⟨rfl, rfl⟩))) | (refine Stp_k 16 rfl ?_; ((refine Stp_store _ _ _ _ _ _ _ rfl rfl FBox.out HSize.out (by first | rfl | fail) (by first | exact Nat.le_of_ble_eq_true rfl | fail) ?_)))); apply awpL_cong; (case hT => ((try simp (disch := omega) only [wtn, deck, ia_drop, List.append_eq, List.foldl_cons, List.foldl_nil, List.map_cons, List.map_nil, Nat.reduceAdd, Nat.reduceMul, Nat.reduceSub, ↓reduceIte, Nat.reduceEqDiff]); rfl)); (case hH => ((try simp (disch := omega) only [wtn, deck, ia_drop, List.append_eq, List.foldl_cons, List.foldl_nil, List.map_cons, List.map_nil, Nat.reduceAdd, Nat.reduceMul, Nat.reduceSub, ↓reduceIte, Nat.reduceEqDiff]); rfl)))) | fail))
  · refine endA_ret _ _ (Res1 rfl (RV.tmp _) (Weak.mk' [] _ (List.Perm.refl _) (VwHs.refl _ _) (VwL.refl _ _))) ?_
    exact ⟨by rw [nextv, dif_neg h]; rfl, by rw [show min (k + 1) l.length = k from by omega]; rfl⟩
  · refine endA_ret _ _ (Res1 rfl (RV.tmp _) (Weak.mk' [] _ (List.Perm.refl _) (VwHs.refl _ _) (VwL.refl _ _))) ?_
    exact ⟨by rw [nextv, dif_pos h]; rfl, by rw [show min (k + 1) l.length = k + 1 from by omega]; rfl⟩
end Go.Proofs.YtkhhlmonhapmaaaGreatDoor
namespace Go.Proofs.YtkhhlmonhapmaaaGreatDoor
open Go.RowKit
theorem WInd_index_str {P : Program} {o : Oper} {ρ : Operand → AV} {H : List Hp} (t : TypeId) (x y : Operand) (k : IntKind) (i : Int) (j : Nat) (l : List UInt8) (ho : o.op = .index t x y) (hx : ρ x = .x (.string (bs l))) (hy : ρ y = .x (.int k i)) (ht : P.underlying t = some .string) (hi : i = (j : Int)) (h1 : j < l.length) : WInd P o ρ H (.x (.int .u8 (l.getD j 0).toNat)) := by
  subst hi
  intro V a w r
  have hg : (bs l)[j]? = some l[j] := by rw [getElem?_pos (bs l) j (by simpa using h1)]; simp
  refine ⟨.int .u8 (l.getD j 0).toNat, fun w' => ?_, by rw [Den]⟩
  have hrun : (Instr.index t (.string (bs l)) (.int k (j : Int))).run P w' = .ok (.int .u8 (l.getD j 0).toNat) w' := by simp [Instr.index, asIntOf, run_underlying ht, hg, h1, List.getD]
  simp [execOp, ho, r.evx (x := x) (by simp [ho, Op.operands]) hx, r.evx (x := y) (by simp [ho, Op.operands]) hy, hrun]
theorem getD_at {α : Type} (s : List α) (k : Nat) (d : α) (h : k < s.length) : s.getD k d = s[k] := by simp [List.getD, h]
theorem getq_at {α : Type} (s : List α) (k : Nat) (d : α) (h : k < s.length) : s[k]?.getD d = s[k] := by simp [h]
end Go.Proofs.YtkhhlmonhapmaaaGreatDoor
