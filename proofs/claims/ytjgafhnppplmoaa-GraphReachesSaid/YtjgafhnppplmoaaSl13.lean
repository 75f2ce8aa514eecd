/- A walk over symbolic memory: the walk's rules, in bundles; where a block stands. No program in sight. -/
import Derived.Test.YtjgafhnppplmoaaSl12
namespace Go.Proofs.Ytjgafhnppplmoaa
open Go.RowKit
set_option linter.unusedSimpArgs false
set_option linter.unusedVariables false
set_option linter.defProp false
/-! Where a block of the call's own stands. -/
class FBox (H : List Hp) (b : Nat) (p : outParam Nat) (cells : outParam (List AV)) : Prop where out : H[p]? = some (.box b cells)
instance {x : Hp} {H : List Hp} {b p : Nat} {cells : List AV} [h : FBox H b p cells] : FBox (x :: H) b (p + 1) cells := ⟨by simpa using h.out⟩
instance {H : List Hp} {b : Nat} {cells : List AV} : FBox (.box b cells :: H) b 0 cells := ⟨rfl⟩
class FRow (H : List Hp) (ad : Option Addr) (p n cap : outParam Nat) (e : outParam TypeId) (size : outParam Nat) (cells : outParam (List AV)) : Prop where out : H[p]? = some (.row ad n cap e size cells)
instance {x : Hp} {H : List Hp} {ad : Option Addr} {p n cap : Nat} {e : TypeId} {size : Nat} {cells : List AV} [h : FRow H ad p n cap e size cells] : FRow (x :: H) ad (p + 1) n cap e size cells := ⟨by simpa using h.out⟩
instance {H : List Hp} {ad : Option Addr} {n cap : Nat} {e : TypeId} {size : Nat} {cells : List AV} : FRow (.row ad n cap e size cells :: H) ad 0 n cap e size cells := ⟨rfl⟩
/-! The rules. -/
theorem ev_tmp (T : List AV) (t : Nat) : ev T (.tmp t) = T.getD t .top := rfl
theorem ev_const (T : List AV) (v : Value) : ev T (.const v) = .x v := rfl
theorem ev_global (T : List AV) (g : Nat) : ev T (.global g) = .x (.pointer (some ⟨g, 0, none⟩)) := rfl
theorem ev_func (T : List AV) (f : Nat) : ev T (.func f) = .x (.func (.func f) #[] #[]) := rfl
theorem evs_eq (T : List AV) (x : Operand) : evs T x = str (ev T x) := rfl
theorem str_g (v : AV) : str (.g true v) = v := rfl
theorem str_gf (v : AV) : str (.g false v) = .g false v := rfl
theorem str_x (v : Value) : str (.x v) = .x v := rfl
theorem str_top : str .top = .top := rfl
theorem str_sq (n : Nat) (l : List AV) : str (.sq n l) = .sq n l := rfl
theorem str_at (l : List AV) : str (.at_ l) = .at_ l := rfl
theorem str_agg (l : List AV) : str (.agg l) = .agg l := rfl
theorem str_tup (l : List AV) : str (.tup l) = .tup l := rfl
theorem str_ifc (t : TypeId) (v : AV) : str (.ifc t v) = .ifc t v := rfl
theorem putT_some (T : List AV) (d : Nat) (av : AV) : putT T (some d) av = T.set d av := rfl
theorem putT_none (T : List AV) (av : AV) : putT T none av = T := rfl
theorem val_x (v : Value) : AV.val (.x v) = v := rfl
theorem ldA_t (n : Nat) (l : List AV) : ldA true n l = mkA (l.take n) := rfl
theorem ldA_f (n : Nat) (l : List AV) : ldA false n l = l.getD 0 .top := rfl
theorem mkA_eq (l : List AV) : mkA l = if l.all AV.ex then .x (.agg (l.map AV.val).toArray) else .agg l := rfl
def wtb := And.intro ev_tmp (And.intro ev_const (And.intro ev_global (And.intro ev_func (And.intro evs_eq (And.intro str_g (And.intro str_gf (And.intro str_x (And.intro str_top (And.intro str_sq (And.intro str_at (And.intro str_agg (And.intro str_tup (And.intro str_ifc (And.intro putT_some (And.intro putT_none val_x)))))))))))))))
def wtc := And.intro cells_int (And.intro cells_bool (And.intro cells_string (And.intro cells_slice (And.intro cells_pointer (And.intro cells_nilIface (And.intro cells_iface (And.intro cells_func (And.intro cells_sq (And.intro cells_at (And.intro cells_ifc (And.intro cells_agg cells_aggx)))))))))))
def wtd := And.intro ldA_t (And.intro ldA_f (And.intro mkA_eq (And.intro ex_x (And.intro ex_sq (And.intro ex_at (And.intro ex_ifc (And.intro vc_int (And.intro vc_bool (And.intro vc_string (And.intro vc_slice (And.intro vc_agg (And.intro spl_succ spl_zero))))))))))))
def wte := And.intro (@Bool.and_false) (And.intro (@Bool.false_and) (And.intro (@Bool.and_true) (And.intro (@Bool.true_and) (And.intro Bool.false_eq_true (And.intro Bool.not_true (And.intro Bool.not_false Int.toNat_natCast))))))
def wtl := And.intro (@List.all_cons.{0}) (And.intro (@List.all_nil.{0}) (And.intro (@List.replicate_succ.{0}) (And.intro (@List.replicate_zero.{0}) (And.intro (@List.flatten_cons.{0}) (And.intro (@List.flatten_nil.{0}) (And.intro (@List.drop_nil.{0}) (And.intro (@List.set_cons_zero.{0}) (And.intro (@List.set_cons_succ.{0}) (And.intro (@List.getD_cons_zero.{0}) (And.intro (@List.getD_cons_succ.{0}) (And.intro (@List.nil_append.{0}) (And.intro (@List.cons_append.{0}) (And.intro (@List.append_nil.{0}) (And.intro (@List.drop_zero.{0}) (And.intro (@List.drop_succ_cons.{0}) (And.intro (@List.take_zero.{0}) (And.intro (@List.take_succ_cons.{0}) (And.intro (@List.map_cons.{0, 0}) (And.intro (@List.map_nil.{0, 0}) (And.intro (@List.length_cons.{0}) (And.intro (@List.length_nil.{0}) (And.intro Nat.zero_add (And.intro Nat.mul_one Nat.add_zero)))))))))))))))))))))))
def wtn := And.intro wtb (And.intro wtc (And.intro wtd (And.intro wte wtl)))
def won := And.intro one_x (And.intro one_sq (And.intro one_at one_ifc))
def wlq := And.intro wtb wtc
def whn := And.intro (@decide_eq_true_eq) (And.intro (@decide_eq_false_iff_not) (And.intro (@beq_iff_eq.{0}) (And.intro (@beq_eq_false_iff_ne.{0}) (And.intro (@bne_iff_ne.{0}) (And.intro (@bne_eq_false_iff_eq.{0}) (And.intro (@Bool.not_eq_true) (And.intro (@Bool.not_eq_false) (And.intro (@Bool.not_eq_true') (And.intro (@Bool.not_eq_false') (And.intro Bool.not_true (And.intro Bool.not_false (And.intro (@Bool.and_eq_true) (And.intro (@Bool.or_eq_true) (And.intro (@Bool.and_eq_false_iff) (And.intro (@Bool.or_eq_false_iff) (@ne_eq.{1}))))))))))))))))
end Go.Proofs.Ytjgafhnppplmoaa
