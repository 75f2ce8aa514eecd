import Derived.Test.YtkhhlmonhapmaaaGreatDoorW8
import Derived.ScopeJumps
import Derived.Lib.SliceRun
/- A walk over symbolic memory: regions that draw their order and turn memory; jumps; clear. No program in sight. -/
namespace Go.Proofs.YtkhhlmonhapmaaaGreatDoor
open Go.RowKit
set_option linter.unusedSimpArgs false
set_option linter.unusedVariables false
section
variable {P : Program} {Δ : List Deferred} {V O : Nat → Prop} {w0 w w' : World} {H H' D : List Hp} {T T' : List AV} {a : Act} {o : Oper} {K : List AV → List Hp → Prop} {ρ : Operand → AV} {ops : Array Oper} {Q : Post} {F : Nat → Prop} {listed : Array Bool} {fuel : Nat}
def nthO : List Oper → Nat → Option Oper
  | [], _ => none
  | o :: _, 0 => some o
  | _ :: l, n + 1 => nthO l n
theorem nthO_eq : ∀ (l : List Oper) (i : Nat), nthO l i = l[i]?
  | [], i => by simp [nthO]
  | o :: l, 0 => by simp [nthO]
  | o :: l, i + 1 => by simp [nthO, nthO_eq l i]
def awpA (P : Program) (ops : Array Oper) (Q : Post) (fuel : Nat) (listed : Array Bool) (T : List AV) (H : List Hp) : Prop :=
  ∀ Δ V O w0 a w, Rel Δ V O w0 H T a w → wpAny P .any ops (lift Δ V O w0 Q) fuel listed a w
theorem awp_drawnA {id : Nat} {l : List Oper} (hm : P.follows .mixedOrders = true) (h : awpA P l.toArray Q l.length (Array.replicate l.length false) T H) : awp P (.region id l.toArray true) Q T H :=
  awp_drawn hm fun Δ V O w0 a w r => by have := h Δ V O w0 a w r; simpa using this
theorem awpA_cong {T' : List AV} {H' : List Hp} (hT : T = T') (hH : H = H') (h : awpA P ops Q fuel listed T' H') : awpA P ops Q fuel listed T H := hT ▸ hH ▸ h
theorem awpA_done (hr : Region.ready .any ops listed = []) (h : Q .normal T H) : awpA P ops Q fuel listed T H := fun Δ V O w0 a w r => wpAny_done hr ⟨T, H, r, h⟩ fuel
def WInd (P : Program) (o : Oper) (ρ : Operand → AV) (H : List Hp) (av : AV) : Prop :=
  ∀ (V : Nat → Prop) (a : Act) (w : World), OK V H ρ o a w → ∃ v, (∀ w', (execOp a.eval o).run P w' = .ok (.value v) w') ∧ Den (FB V H) w av v
def takeOk (ops : Array Oper) (listed : Array Bool) (i : Nat) : Bool := Region.noSelect ops && Region.free .any ops listed i && (Region.ready .any ops listed).contains i
theorem awpA_take (i : Nat) {o : Oper} {l : List Oper} (hi : nthO l i = some o) (hg : o.guard = none) (hc : takeOk l.toArray listed i = true) (hpan : ∀ c T H, ¬ Q (.panic c) T H) (av : AV) (h : WInd P o (ev T) H av) (hK : awpA P l.toArray Q fuel (listed.setIfInBounds i true) (putT T o.dst av) H) : awpA P l.toArray Q (fuel + 1) listed T H := by
  have hi : l.toArray[i]? = some o := by rw [List.getElem?_toArray, ← nthO_eq]; exact hi
  intro Δ V O w0 a w r
  unfold takeOk at hc
  simp only [Bool.and_eq_true] at hc
  obtain ⟨v, hv, hd⟩ := h V a w (r.oks o)
  refine wpAny_take hi hc.1.1 hc.1.2 hc.2 (fun c a w ⟨T, H, _, hq⟩ => absurd hq (hpan c T H)) (.inl ⟨by simp [Region.wanted, hg], hv⟩) (hK Δ V O w0 _ w (r.put _ hd))
theorem wpOp_of_stp {i : Nat} (hi : ops[i]? = some o) (hg : o.guard = none) (h : Stp P o T H K) (Δ : List Deferred) (V O : Nat → Prop) (w0 : World) (r : Rel Δ V O w0 H T a w) (Kc : Act → World → Prop) (Qc : Exit → Act → World → Prop) (hK : ∀ T' H' a' w', K T' H' → Rel Δ V O w0 H' T' a' w' → Kc a' w') : wpOp P ops Qc i Kc a w := by
  unfold wpOp
  simp only [hi]
  rw [if_pos (by simp [Region.wanted, hg])]
  exact .inl (h Δ V O w0 a w Kc Qc r hK)
theorem awpA_1 (i : Nat) {o : Oper} {l : List Oper} (hr : Region.ready .any l.toArray listed = [i]) (hi : nthO l i = some o) (hg : o.guard = none) (h : Stp P o T H (awpA P l.toArray Q fuel (listed.setIfInBounds i true))) : awpA P l.toArray Q (fuel + 1) listed T H := fun Δ V O w0 a w r =>
  wpAny_all hr (by simp) fun j hj => by
    rw [List.mem_singleton] at hj; subst hj
    have hi : l.toArray[j]? = some o := by rw [List.getElem?_toArray, ← nthO_eq]; exact hi
    exact wpOp_of_stp hi hg h Δ V O w0 r _ _ fun T' H' a' w' hk hr => hk Δ V O w0 a' w' hr
theorem awpA_2 (i j : Nat) {o q : Oper} {l : List Oper} (hr : Region.ready .any l.toArray listed = [i, j]) (hi : nthO l i = some o) (hg : o.guard = none) (hj : nthO l j = some q) (hgj : q.guard = none) (h : Stp P o T H (awpA P l.toArray Q fuel (listed.setIfInBounds i true))) (h2 : Stp P q T H (awpA P l.toArray Q fuel (listed.setIfInBounds j true))) : awpA P l.toArray Q (fuel + 1) listed T H := fun Δ V O w0 a w r =>
  wpAny_all hr (by simp) fun k hk => by
    have hi : l.toArray[i]? = some o := by rw [List.getElem?_toArray, ← nthO_eq]; exact hi
    have hj : l.toArray[j]? = some q := by rw [List.getElem?_toArray, ← nthO_eq]; exact hj
    rcases List.mem_cons.1 hk with rfl | hk
    · exact wpOp_of_stp hi hg h Δ V O w0 r _ _ fun T' H' a' w' hk hr => hk Δ V O w0 a' w' hr
    · rw [List.mem_singleton] at hk; subst hk
      exact wpOp_of_stp hj hgj h2 Δ V O w0 r _ _ fun T' H' a' w' hk hr => hk Δ V O w0 a' w' hr
theorem WInd_mv (x : Operand) (ho : o.op = .move x) : WInd P o ρ H (ρ x) := fun V a w r => ⟨a.eval x, fun w' => by simp [execOp, ho], r.ops x (by simp [ho, Op.operands])⟩
theorem WInd_as (x : Operand) (ho : o.op = .assign x) : WInd P o ρ H (ρ x) := fun V a w r => ⟨a.eval x, fun w' => by simp [execOp, ho], r.ops x (by simp [ho, Op.operands])⟩
theorem WInd_x (v : Value) (hs : ∀ cs b, o.op ≠ .select cs b) (hx : (o.op.operands.toList.all fun x => (ρ x).ex) = true)
    (hrun : ∀ w, (execOp (fun x => (ρ x).val) o).run P w = .ok (.value v) w) : WInd P o ρ H (.x v) := fun V a w r => ⟨v, fun w' => by
  have he : execOp a.eval o = execOp (fun x => (ρ x).val) o := execOp_congr o hs fun x h => by
    have hex := List.all_eq_true.1 hx x (by simpa using h)
    have hd := r.ops x h
    cases hv : ρ x with
    | x v => rw [hv, Den] at hd; rw [hd]; rfl
    | _ => rw [hv] at hex; cases hex
  rw [he]; exact hrun w', by rw [Den]⟩
theorem WInd_nil (x : Operand) (b off : Nat) (ho : o.op = .nilCheck x) (hx : ρ x = .x (.pointer (some ⟨b, off, none⟩))) : WInd P o ρ H (.x (.pointer (some ⟨b, off, none⟩))) := fun V a w r =>
  ⟨.pointer (some ⟨b, off, none⟩), fun w' => by simp [execOp, ho, r.evx (by simp [ho, Op.operands]) hx], by rw [Den]⟩
theorem WInd_field_x (s : TypeId) (x : Operand) (f k b off : Nat) (ho : o.op = .fieldAddr s x f) (hx : ρ x = .x (.pointer (some ⟨b, off, none⟩))) (hk : fldT P s f = some k) : WInd P o ρ H (.x (.pointer (some ⟨b, off + k, none⟩))) := fun V a w r =>
  ⟨.pointer (some ⟨b, off + k, none⟩), fun w' => by simp [execOp, ho, r.evx (by simp [ho, Op.operands]) hx, run_fieldAt s f k hk], by rw [Den]⟩
theorem awpL_gf {rest : List Oper} {j : Nat} {want : Bool} {t : Nat} {T' : List AV} (hg : o.guard = some (j, want)) (hd : (ops[j]?).bind (·.dst) = some t) (hp : gdc want (T.getD t .top) = some false) (hT : putT T o.dst (.x undef) = T') (hK : awpL P ops Q rest T' H) : awpL P ops Q (o :: rest) T H := fun Δ V O w0 a w r =>
  wpList_step fun K hKc => by
    rw [wanted_of r hg hd hp]
    simp only [Bool.false_eq_true, if_false]
    exact hKc _ _ ((hT ▸ hK) Δ V O w0 _ _ (r.put _ (by rw [Den])))
theorem dr_gf {rest : List Oper} {fin : List AV → Prop} {j : Nat} {want : Bool} {t : Nat} {T' : List AV} (hg : o.guard = some (j, want)) (hd : (ops[j]?).bind (·.dst) = some t) (hp : gdc want (T.getD t .top) = some false) (hT : putT T o.dst (.g false .top) = T') (hK : dr P H ops rest T' fin) : dr P H ops (o :: rest) T fin :=
  dr_g false .top hg hd hp (fun h => by cases h) (hT ▸ hK)
/-! ### Jumps -/

def jumpA (l : Nat) (J : List AV → List Hp → Prop) (Q : Post) : Post
  | .goto l', T, H => l' = l ∧ J T H
  | e, T, H => Q e T H
theorem jumpA_normal {l : Nat} {J : List AV → List Hp → Prop} (h : Q .normal T H) : jumpA l J Q .normal T H := h
theorem jumpA_exit {l id : Nat} {J : List AV → List Hp → Prop} (h : Q (.exit id) T H) : jumpA l J Q (.exit id) T H := h
theorem jumpA_ret {l : Nat} {J : List AV → List Hp → Prop} (h : Q .ret T H) : jumpA l J Q .ret T H := h
theorem jumpA_goto {l : Nat} {J : List AV → List Hp → Prop} (h : J T H) : jumpA l J Q (.goto l) T H := ⟨rfl, h⟩
theorem awp_goto {l : Nat} (h : Q (.goto l) T H) : awp P (.goto l) Q T H := fun Δ V O w0 a w r => wp_goto ⟨T, H, r, h⟩
end
end Go.Proofs.YtkhhlmonhapmaaaGreatDoor
/- A walk over symbolic memory: 'clear'. No program in sight. -/
namespace Go.Proofs.YtkhhlmonhapmaaaGreatDoor
open Go.RowKit
set_option linter.unusedSimpArgs false
set_option linter.unusedVariables false
section
variable {P : Program} {Δ : List Deferred} {V O : Nat → Prop} {w0 w w' : World} {H H' D : List Hp} {T T' : List AV} {a : Act} {o : Oper} {K : List AV → List Hp → Prop} {ρ : Operand → AV} {ops : Array Oper} {Q : Post} {F : Nat → Prop}
theorem Evl_callL {c : Operand} {args : Array Operand} {tys : Array TypeId} {fs cs : Array Value} (f : FuncId) (fn : Func) (avs : List AV) (res : Value) (ho : o.op = .call { callee := .value c, args := args, argTypes := tys }) (hc : ρ c = .x (.func (.func f) fs cs))
    (hf : P.funcs[f]? = some fn) (hn : fn.name ≠ "runtime.NumGoroutine") (hb : fn.body.isSome = true) (hargs : VwL H (fs.toList.map .x ++ args.toList.map ρ ++ cs.toList.map .x) avs) (hS : Spec P f [] avs fun r H' => r = .x res ∧ H' = []) : Evl P o ρ H (.x res) := by
  intro V a w Kc Qc r hKc
  have hmem : ∀ x ∈ args.toList, x ∈ o.op.operands := fun x hx => by simp [ho, Op.operands, Call.operands]; exact .inr (by simpa using hx)
  have hFF : ∀ k, FB V [] k → V k := fun k hk => by
    rcases hk with hk | ⟨x, hx, _⟩
    · exact hk
    · cases hx
  have hd : DenL (FB V []) w avs (fs.toList ++ args.toList.map a.eval ++ cs.toList) := hargs.den (fun k hk => .inl (hFF k hk)) (fun h hh => ⟨r.hok.ok h hh, fun k e hk => (r.hok.lt h hh k e).2 (hFF k hk)⟩) _ ((DenL.exact.app (denL_ops r _ hmem)).app DenL.exact)
  refine wp_call_of ho (r.evx (by simp [ho, Op.operands, Call.operands]) hc) hf hn hb (vs := (fs.toList ++ args.toList.map a.eval ++ cs.toList).toArray) (by apply Array.toList_inj.1; simp) ?_
  refine (hS V w _ r.vlt ⟨fun x hx => (by cases hx), .nil, fun x hx => (by cases hx)⟩ hd ⟨fun k _ ⟨x, hx, _⟩ => (by cases hx), r.gw⟩).mono ?_
  rintro e w' ⟨res', H', v, ⟨rfl, rfl⟩, rfl, hdv, _, hfr, _⟩
  have hE : Ext w w' := ⟨hfr.os, hfr.tape, hfr.output, hfr.size, fun k hk => hfr.block k hk fun ⟨y, hy, _⟩ => by cases hy⟩
  exact ⟨v, rfl, hKc v w' hE (by simp only [Den] at hdv ⊢; exact hdv)⟩
theorem DenL.strip {l : List AV} {vs : List Value} (h : DenL F w l vs) : DenL F w (l.map str) vs := by
  refine DenL.of (by simp [h.len]) fun j av u h1 h2 => ?_
  rw [List.getElem?_map] at h1
  cases hj : l[j]? with
  | none => rw [hj] at h1; cases h1
  | some x =>
    rw [hj] at h1; cases h1
    exact (h.get' j x u hj h2).str
theorem Rel.strip (r : Rel Δ V O w0 H T a w) : Rel Δ V O w0 H (T.map str) a w := { r with tmps := r.tmps.strip }
end
end Go.Proofs.YtkhhlmonhapmaaaGreatDoor
/- A walk over symbolic memory: tests against nil, appends to a part of a row. No program in sight. -/
namespace Go.Proofs.YtkhhlmonhapmaaaGreatDoor
open Go.RowKit
set_option linter.unusedSimpArgs false
set_option linter.unusedVariables false
section
variable {P : Program} {Δ : List Deferred} {V O : Nat → Prop} {w0 w w' : World} {H H' D : List Hp} {T T' : List AV} {a : Act} {o : Oper} {K : List AV → List Hp → Prop} {ρ : Operand → AV} {ops : Array Oper} {Q : Post} {F : Nat → Prop}
end
end Go.Proofs.YtkhhlmonhapmaaaGreatDoor
/- A walk over symbolic memory: the walk's rules, in bundles; where a block stands. No program in sight. -/
namespace Go.Proofs.YtkhhlmonhapmaaaGreatDoor
open Go.RowKit
set_option linter.unusedSimpArgs false
set_option linter.unusedVariables false
set_option linter.defProp false
/-! Where a block of the call's own stands. -/
class FBox (H : List Hp) (b : Nat) (p : outParam Nat) (cells : outParam (List AV)) : Prop where out : H[p]? = some (.box b cells)
instance {x : Hp} {H : List Hp} {b p : Nat} {cells : List AV} [h : FBox H b p cells] : FBox (x :: H) b (p + 1) cells := ⟨by simpa using h.out⟩
instance {H : List Hp} {b : Nat} {cells : List AV} : FBox (.box b cells :: H) b 0 cells := ⟨rfl⟩
class FRow (H : List Hp) (ad : Option Addr) (p n cap : outParam Nat) (e : outParam TypeId) (size : outParam Nat) (cells : outParam (List AV)) : Prop where out : H[p]? = some (.row ad n cap e size cells)
instance {x : Hp} {H : List Hp} {ad : Option Addr} {p n cap : Nat} {e : TypeId} {size : Nat} {cells : List AV} [h : FRow H ad p n cap e size cells] : FRow (x :: H) ad (p + 1) n cap e size cells := ⟨by simpa using h.out⟩
instance {H : List Hp} {ad : Option Addr} {n cap : Nat} {e : TypeId} {size : Nat} {cells : List AV} : FRow (.row ad n cap e size cells :: H) ad 0 n cap e size cells := ⟨rfl⟩
/-! The rules. -/
theorem ev_tmp (T : List AV) (t : Nat) : ev T (.tmp t) = T.getD t .top := rfl
theorem ev_const (T : List AV) (v : Value) : ev T (.const v) = .x v := rfl
theorem ev_global (T : List AV) (g : Nat) : ev T (.global g) = .x (.pointer (some ⟨g, 0, none⟩)) := rfl
theorem ev_func (T : List AV) (f : Nat) : ev T (.func f) = .x (.func (.func f) #[] #[]) := rfl
theorem evs_eq (T : List AV) (x : Operand) : evs T x = str (ev T x) := rfl
theorem str_g (v : AV) : str (.g true v) = v := rfl
theorem str_gf (v : AV) : str (.g false v) = .g false v := rfl
theorem str_x (v : Value) : str (.x v) = .x v := rfl
theorem str_top : str .top = .top := rfl
theorem str_sq (n : Nat) (l : List AV) : str (.sq n l) = .sq n l := rfl
theorem str_at (l : List AV) : str (.at_ l) = .at_ l := rfl
theorem str_agg (l : List AV) : str (.agg l) = .agg l := rfl
theorem str_tup (l : List AV) : str (.tup l) = .tup l := rfl
theorem str_ifc (t : TypeId) (v : AV) : str (.ifc t v) = .ifc t v := rfl
theorem putT_some (T : List AV) (d : Nat) (av : AV) : putT T (some d) av = T.set d av := rfl
theorem putT_none (T : List AV) (av : AV) : putT T none av = T := rfl
theorem val_x (v : Value) : AV.val (.x v) = v := rfl
theorem ldA_t (n : Nat) (l : List AV) : ldA true n l = mkA (l.take n) := rfl
theorem ldA_f (n : Nat) (l : List AV) : ldA false n l = l.getD 0 .top := rfl
theorem mkA_eq (l : List AV) : mkA l = if l.all AV.ex then .x (.agg (l.map AV.val).toArray) else .agg l := rfl
def wtb := And.intro ev_tmp (And.intro ev_const (And.intro ev_global (And.intro ev_func (And.intro evs_eq (And.intro str_g (And.intro str_gf (And.intro str_x (And.intro str_top (And.intro str_sq (And.intro str_at (And.intro str_agg (And.intro str_tup (And.intro str_ifc (And.intro putT_some (And.intro putT_none val_x)))))))))))))))
def wtc := And.intro cells_int (And.intro cells_bool (And.intro cells_string (And.intro cells_slice (And.intro cells_pointer (And.intro cells_nilIface (And.intro cells_iface (And.intro cells_func (And.intro cells_sq (And.intro cells_at (And.intro cells_ifc (And.intro cells_agg cells_aggx)))))))))))
def wtd := And.intro ldA_t (And.intro ldA_f (And.intro mkA_eq (And.intro ex_x (And.intro ex_sq (And.intro ex_at (And.intro ex_ifc (And.intro vc_int (And.intro vc_bool (And.intro vc_string (And.intro vc_slice (And.intro vc_agg (And.intro spl_succ spl_zero))))))))))))
def wte := And.intro (@Bool.and_false) (And.intro (@Bool.false_and) (And.intro (@Bool.and_true) (And.intro (@Bool.true_and) (And.intro Bool.false_eq_true (And.intro Bool.not_true (And.intro Bool.not_false Int.toNat_natCast))))))
def wtl := And.intro (@List.all_cons.{0}) (And.intro (@List.all_nil.{0}) (And.intro (@List.replicate_succ.{0}) (And.intro (@List.replicate_zero.{0}) (And.intro (@List.flatten_cons.{0}) (And.intro (@List.flatten_nil.{0}) (And.intro (@List.drop_nil.{0}) (And.intro (@List.set_cons_zero.{0}) (And.intro (@List.set_cons_succ.{0}) (And.intro (@List.getD_cons_zero.{0}) (And.intro (@List.getD_cons_succ.{0}) (And.intro (@List.nil_append.{0}) (And.intro (@List.cons_append.{0}) (And.intro (@List.append_nil.{0}) (And.intro (@List.drop_zero.{0}) (And.intro (@List.drop_succ_cons.{0}) (And.intro (@List.take_zero.{0}) (And.intro (@List.take_succ_cons.{0}) (And.intro (@List.map_cons.{0, 0}) (And.intro (@List.map_nil.{0, 0}) (And.intro (@List.length_cons.{0}) (And.intro (@List.length_nil.{0}) (And.intro Nat.zero_add (And.intro Nat.mul_one Nat.add_zero)))))))))))))))))))))))
def wtn := And.intro wtb (And.intro wtc (And.intro wtd (And.intro wte wtl)))
def won := And.intro one_x (And.intro one_sq (And.intro one_at one_ifc))
def wlq := And.intro wtb wtc
def whn := And.intro (@decide_eq_true_eq) (And.intro (@decide_eq_false_iff_not) (And.intro (@beq_iff_eq.{0}) (And.intro (@beq_eq_false_iff_ne.{0}) (And.intro (@bne_iff_ne.{0}) (And.intro (@bne_eq_false_iff_eq.{0}) (And.intro (@Bool.not_eq_true) (And.intro (@Bool.not_eq_false) (And.intro (@Bool.not_eq_true') (And.intro (@Bool.not_eq_false') (And.intro Bool.not_true (And.intro Bool.not_false (And.intro (@Bool.and_eq_true) (And.intro (@Bool.or_eq_true) (And.intro (@Bool.and_eq_false_iff) (And.intro (@Bool.or_eq_false_iff) (@ne_eq.{1}))))))))))))))))
end Go.Proofs.YtkhhlmonhapmaaaGreatDoor
/- A walk over symbolic memory: less said of a contract; the end of a law; strings put together. No program in sight. -/
namespace Go.Proofs.YtkhhlmonhapmaaaGreatDoor
open Go.RowKit
set_option linter.unusedSimpArgs false
set_option linter.unusedVariables false
section
variable {P : Program} {f : FuncId} {H : List Hp} {args : List AV}
theorem Spec.weak {Q Q2 : AV → List Hp → Prop} (h : Spec P f H args Q) (hq : ∀ r H', Q r H' → ∃ r2 H2, Weak H' [r] H2 [r2] ∧ Q2 r2 H2) : Spec P f H args Q2 := fun V w vs h1 h2 h3 h4 =>
  (h V w vs h1 h2 h3 h4).mono fun e w' ⟨r, H', v, q, he, hd, hok, hfr, hown⟩ => by
    obtain ⟨r2, H2, hw, q2⟩ := hq r H' q
    obtain ⟨k1, k2, k3⟩ := forgetL (vs := [v]) hok (by rw [DenL]; exact ⟨v, [], rfl, hd, by rw [DenL]⟩) hw
    have k2' := k2.get' 0 r2 v rfl rfl
    exact ⟨r2, H2, v, q2, he, k2', k1, hfr, fun x hx k hk => by
      obtain ⟨y, hy, e⟩ := k3 x hx k hk
      exact hown y hy k e⟩
theorem law_walk (h : Spec P f [] args (fun r H' => r = .x (.bool true) ∧ H' = [])) (W : World) (hg : Gw W) (vs : Array Value) (hd : DenL (fun _ => False) W args vs.toList) : Calls P f vs W fun e w' => e = .returned (.bool true) ∧ Ext W w' := by
  have := h (fun _ => False) W vs.toList (fun _ h => h.elim) ⟨by simp, List.Pairwise.nil, by simp⟩ (hd.weak fun k hk => by rcases hk with hk | ⟨x, hx, _⟩; exact hk; cases hx) ⟨fun k _ ⟨x, hx, _⟩ => (by cases hx), hg⟩
  refine this.mono fun e w' ⟨r, H', v, ⟨hr, _⟩, he, hdv, _, hfr, _⟩ => ?_
  subst hr
  rw [Den] at hdv
  subst hdv
  refine ⟨he, Fr.ext ⟨hfr.os, hfr.tape, hfr.output, hfr.size, fun k hk hn => hfr.block k hk fun ⟨x, hx, _⟩ => by cases hx⟩⟩
end
theorem DenL.cons' {F : Nat → Prop} {W : World} {a : AV} {l : List AV} {v : Value} {vs : List Value} (h : Den F W a v) (k : DenL F W l vs) : DenL F W (a :: l) (v :: vs) := by rw [DenL]; exact ⟨v, vs, rfl, h, k⟩
theorem DenL.nil' {F : Nat → Prop} {W : World} : DenL F W [] [] := by rw [DenL]
theorem den_x {F : Nat → Prop} {W : World} (v : Value) : Den F W (.x v) v := by rw [Den]
theorem den_int {F : Nat → Prop} {W : World} (a : Int) : Den F W (.x (.int .i64 a)) (.int .i64 a) := den_x _
section
variable {P : Program} {o : Oper} {ρ : Operand → AV} {H : List Hp}
theorem bs_app (a b : List UInt8) : bs a ++ bs b = bs (a ++ b) := by
  apply ByteArray.ext
  simp [bs]
/-! Operations on memory that nobody writes, whose results hang on no memory. -/
theorem WInd_nil_at (x : Operand) (cells : List AV) (ho : o.op = .nilCheck x) (hx : ρ x = .at_ cells) : WInd P o ρ H (.at_ cells) := fun V a w r => by
  have hd := r.ops x (by simp [ho, Op.operands])
  rw [hx] at hd
  have hd' := hd
  rw [Den] at hd
  obtain ⟨b, off, vals, hv, _⟩ := hd
  exact ⟨a.eval x, fun w' => by rw [hv]; simp [execOp, ho, hv], hd'⟩
theorem WInd_field_at (s : TypeId) (x : Operand) (f k : Nat) (cells : List AV) (ho : o.op = .fieldAddr s x f) (hx : ρ x = .at_ cells) (hk : fldT P s f = some k) : WInd P o ρ H (.at_ (cells.drop k)) := fun V a w r => by
  have hd := r.ops x (by simp [ho, Op.operands])
  rw [hx, Den] at hd
  obtain ⟨b, off, vals, hv, hm, hl⟩ := hd
  exact ⟨.pointer (some ⟨b, off + k, none⟩), fun w' => by simp [execOp, ho, hv, run_fieldAt s f k hk], by rw [Den]; exact ⟨b, off + k, vals.drop k, rfl, hm.drop k, hl.drop k⟩⟩
theorem Evl_concat {x y : Operand} (t t2 : TypeId) (a b : List UInt8) (ho : o.op = .binOp .add t x y t2) (hx : ρ x = .x (.string (bs a))) (hy : ρ y = .x (.string (bs b))) (hl : a.length + b.length ≤ 1000000000) : Evl P o ρ H (.x (.string (bs (a ++ b)))) := by
  apply Evl_x
  case hs => (intro cs b h; rw [ho] at h; cases h)
  case hx => simp [ho, Op.operands, hx, hy, AV.ex]
  case hrun =>
    intro w
    have h1 : (bs a).size = a.length := by simp [bs, ByteArray.size]
    have h2 : (bs b).size = b.length := by simp [bs, ByteArray.size]
    have h3 : (a.length : Int) + (b.length : Int) ≤ 9223372036854775807 := by omega
    simp [execOp, ho, hx, hy, AV.val, go_sem, Op.stringOp, h1, h2, h3, bs_app]
end
end Go.Proofs.YtkhhlmonhapmaaaGreatDoor
