import Derived.Test.YtfaljkenmbbbaaaDoorW4
import Derived.Test.YtfaljkenmbbbaaaDoorW2
import Derived.ScopeJumps
import Derived.Lib.SliceRun
/- A walk over symbolic memory: conversions, make, stores into rows, appends of strings. No program in sight. -/
namespace Go.Proofs.YtfaljkenmbbbaaaDoor
open Go.RowKit
set_option linter.unusedSimpArgs false
set_option linter.unusedVariables false
/-! What a program's table says of its types. -/
class HAgg (P : Program) (t : TypeId) (b : outParam Bool) (n : outParam Nat) : Prop where out : aggT P t = some (b, n)
class HSize (P : Program) (t : TypeId) (n : outParam Nat) : Prop where out : (P.info? t).map (·.size) = some n
class HFld (P : Program) (t : TypeId) (f : Nat) (k : outParam Nat) : Prop where out : fldT P t f = some k
class HEl (P : Program) (t : TypeId) (e : outParam TypeId) (n : outParam Nat) : Prop where out : elT P t = some (e, n)
class HElem (P : Program) (t : TypeId) (e : outParam TypeId) (z : outParam Value) (size bytes : outParam Nat) : Prop where out : ElemAt P t e z size bytes
class HPl (P : Program) (t : TypeId) (pl : outParam (List (Nat × Nat))) (z : outParam (List Value)) : Prop where out : plT P t = some (pl, z)
class HZero (P : Program) (t : TypeId) (z : outParam Value) : Prop where out : (P.info? t).bind (·.zero) = some z
/-- A frame of n slots of which some are known. -/
def frm (n : Nat) (l : List (Nat × AV)) : List AV := l.foldl (fun T p => T.set p.1 p.2) (List.replicate n .top)
theorem Vw.eq {D : List Hp} {a b : AV} (h : a = b) : Vw D a b := h ▸ Vw.refl a
section
variable {P : Program} {V O : Nat → Prop} {w0 w w' : World} {H H' D : List Hp} {T T' : List AV} {a : Act} {o : Oper} {K : List AV → List Hp → Prop} {ρ : Operand → AV} {ops : Array Oper} {Q : Post} {F : Nat → Prop}
/-- The kind of an operation, for the walk's choice. -/
def opk : Op → Nat
  | .move _ => 0
  | .assign _ => 0
  | .pick .. => 1
  | .extract .. => 2
  | .call { callee := .builtin .len, .. } => 3
  | .nilCheck _ => 4
  | .fieldAddr .. => 5
  | .load .. => 6
  | .indexAddr .. => 7
  | .index .. => 8
  | .slice .. => 9
  | .build .. => 10
  | .call { callee := .value _, .. } => 11
  | .call { callee := .builtin .append, .. } => 13
  | .alloc _ => 14
  | .box .. => 15
  | .store .. => 16
  | .buildSlice .. => 17
  | .makeSlice .. => 18
  | .call { callee := .invoke .., .. } => 19
  | .call { callee := .builtin _, .. } => 20
  | _ => 12
theorem Evl_k (n : Nat) {av : AV} (hk : opk o.op = n) (h : Evl P o ρ H av) : Evl P o ρ H av := h
theorem Stp_k (n : Nat) (hk : opk o.op = n) (h : Stp P o T H K) : Stp P o T H K := h
theorem awpL_cong {rest : List Oper} {T' : List AV} {H' : List Hp} (hT : T = T') (hH : H = H') (h : awpL P ops Q rest T' H') : awpL P ops Q rest T H := hT ▸ hH ▸ h
theorem awpL_evl2 {rest : List Oper} {T' : List AV} (hg : o.guard = none) (av : AV) (h : Evl P o (ev T) H av) (hT : putT T o.dst av = T') (hK : awpL P ops Q rest T' H) : awpL P ops Q (o :: rest) T H := awpL_evl hg av h (hT ▸ hK)
theorem dr_evl2 {rest : List Oper} {fin : List AV → Prop} {T' : List AV} (hg : o.guard = none) (av : AV) (h : Evl P o (ev T) H av) (hT : putT T o.dst av = T') (hK : dr P H ops rest T' fin) : dr P H ops (o :: rest) T fin := dr_evl hg av h (hT ▸ hK)
theorem awpL_g2 {rest : List Oper} {T' : List AV} {j : Nat} {want : Bool} {t : Nat} (p : Bool) (av : AV) (hg : o.guard = some (j, want)) (hd : (ops[j]?).bind (·.dst) = some t) (hp : gdc want (T.getD t .top) = some p)
    (h : p = true → Evl P o (evs T) H av) (hT : putT T o.dst (.g p av) = T') (hK : awpL P ops Q rest T' H) : awpL P ops Q (o :: rest) T H := awpL_g p av hg hd hp h (hT ▸ hK)
theorem dr_g2 {rest : List Oper} {fin : List AV → Prop} {T' : List AV} {j : Nat} {want : Bool} {t : Nat} (p : Bool) (av : AV) (hg : o.guard = some (j, want)) (hd : (ops[j]?).bind (·.dst) = some t) (hp : gdc want (T.getD t .top) = some p)
    (h : p = true → Evl P o (evs T) H av) (hT : putT T o.dst (.g p av) = T') (hK : dr P H ops rest T' fin) : dr P H ops (o :: rest) T fin := dr_g p av hg hd hp h (hT ▸ hK)
theorem thenA_normal {K : List AV → List Hp → Prop} (h : K T H) : thenA K Q .normal T H := h
theorem thenA_exit {K : List AV → List Hp → Prop} {id : Nat} (h : Q (.exit id) T H) : thenA K Q (.exit id) T H := h
theorem thenA_ret {K : List AV → List Hp → Prop} (h : Q .ret T H) : thenA K Q .ret T H := h
theorem thenA_goto {K : List AV → List Hp → Prop} {id : Nat} (h : Q (.goto id) T H) : thenA K Q (.goto id) T H := h
theorem inBlockA_eq {id : Nat} (h : Q .normal T H) : inBlockA id Q (.exit id) T H := by simp only [inBlockA, if_true]; exact h
theorem inBlockA_ne {id id' : Nat} (hne : id' ≠ id) (h : Q (.exit id') T H) : inBlockA id Q (.exit id') T H := by simp only [inBlockA, if_neg hne]; exact h
theorem inBlockA_normal {id : Nat} (h : Q .normal T H) : inBlockA id Q .normal T H := h
theorem inBlockA_ret {id : Nat} (h : Q .ret T H) : inBlockA id Q .ret T H := h
theorem inBlockA_goto {id l : Nat} (h : Q (.goto l) T H) : inBlockA id Q (.goto l) T H := h
theorem ex_x (v : Value) : AV.ex (.x v) = true := rfl
theorem ex_sq (n : Nat) (l : List AV) : AV.ex (.sq n l) = false := rfl
theorem ex_at (l : List AV) : AV.ex (.at_ l) = false := rfl
theorem ex_ifc (t : TypeId) (a : AV) : AV.ex (.ifc t a) = false := rfl
theorem spl_succ (a : AV) (l : List AV) (o : Nat) (new : List AV) : spl (a :: l) (o + 1) new = a :: spl l o new := by simp [spl, Nat.succ_add]
theorem spl_zero (l new : List AV) : spl l 0 new = new ++ l.drop new.length := by simp [spl]
theorem vc_int (k : IntKind) (n : Int) : (Value.int k n).cells.toList = [.int k n] := rfl
theorem vc_bool (b : Bool) : (Value.bool b).cells.toList = [.bool b] := rfl
theorem vc_string (b : ByteArray) : (Value.string b).cells.toList = [.string b] := rfl
theorem vc_slice (a : Option Addr) (n c : Nat) : (Value.slice a n c).cells.toList = [.slice a n c] := rfl
theorem vc_agg (l : List Value) : (Value.agg l.toArray).cells.toList = l := rfl
theorem one_x (v : Value) : AV.one (.x v) = v.oneCell' := rfl
theorem one_sq (n : Nat) (l : List AV) : AV.one (.sq n l) = true := rfl
theorem one_at (l : List AV) : AV.one (.at_ l) = true := rfl
theorem one_ifc (t : TypeId) (a : AV) : AV.one (.ifc t a) = true := rfl
theorem cells_int (k : IntKind) (n : Int) : AV.cells (.x (.int k n)) = [.x (.int k n)] := rfl
theorem cells_bool (b : Bool) : AV.cells (.x (.bool b)) = [.x (.bool b)] := rfl
theorem cells_string (b : ByteArray) : AV.cells (.x (.string b)) = [.x (.string b)] := rfl
theorem cells_slice (a : Option Addr) (n c : Nat) : AV.cells (.x (.slice a n c)) = [.x (.slice a n c)] := rfl
theorem cells_pointer (a : Option Addr) : AV.cells (.x (.pointer a)) = [.x (.pointer a)] := rfl
theorem cells_nilIface : AV.cells (.x .nilIface) = [.x .nilIface] := rfl
theorem cells_iface (t : TypeId) (v : Value) : AV.cells (.x (.iface t v)) = [.x (.iface t v)] := rfl
theorem cells_func (f : Fn) (a b : Array Value) : AV.cells (.x (.func f a b)) = [.x (.func f a b)] := rfl
theorem cells_sq (n : Nat) (l : List AV) : AV.cells (.sq n l) = [.sq n l] := rfl
theorem cells_at (l : List AV) : AV.cells (.at_ l) = [.at_ l] := rfl
theorem cells_ifc (t : TypeId) (a : AV) : AV.cells (.ifc t a) = [.ifc t a] := rfl
theorem cells_agg (l : List AV) : AV.cells (.agg l) = l := rfl
theorem cells_aggx (l : List Value) : AV.cells (.x (.agg l.toArray)) = l.map .x := rfl
/-- The cells of bytes. -/
def u8a (l : List UInt8) : List AV := (u8s l).map .x
theorem u8a_len (l : List UInt8) : (u8a l).length = l.length := by simp [u8a, u8s_len]
/-- The value that src shows, as the elder words say it. -/
theorem OK.srcSl (r : OK V H ρ o a w) {x : Operand} (hx : x ∈ o.op.operands) {m : Nat} {l : List Value} (h : Src ρ H x m (l.map .x)) : Sl 0 w (a.eval x) m l := by
  obtain ⟨ad, cap, vals, hv, h1, h2, h3, hd, hone, hm⟩ := r.src hx h
  rw [hd.exact'] at hm
  refine ⟨ad, cap, hv, h1, h2, h3, fun _ _ => Nat.zero_le _, fun j u hj => ?_⟩
  rcases hm with rfl | ⟨b, off, rfl, hc⟩
  · simp at hj
  · exact ⟨_, rfl, by rw [add_none]; exact hc j u hj⟩
/-- 'string(b)'. -/
theorem Evl_string (src dst e : TypeId) (x : Operand) (l : List UInt8) (ho : o.op = .convert src dst x) (hs : P.underlying src = some (.slice e)) (he : P.underlying e = some (.int .u8)) (hd : P.underlying dst = some .string)
    (hx : Src ρ H x l.length (u8a l)) : Evl P o ρ H (.x (.string (bs l))) := by
  intro V a w Kc Q r hKc
  have hsl := r.srcSl (x := x) (by simp [ho, Op.operands]) (l := u8s l) hx
  have hrun := run_string_bs (P := P) w 0 src dst (a.eval x) l e hs he hd hsl
  unfold Oper.wp execOp
  simp only [ho, hrun, Sem.run_bind, Sem.run_pure, Result.andThen_ok, Oper.upon]
  exact hKc _ _ (Below.refl _ _) (by rw [Den])
/-- '[]byte(s)': a box that the slice shows whole. -/
theorem Stp_bytes (src dst e : TypeId) (x : Operand) (l : List UInt8) (ho : o.op = .convert src dst x) (hs : P.underlying src = some .string) (ht : P.underlying dst = some (.slice e)) (he : P.elem dst = e) (hu : P.underlying e = some (.int .u8)) (hx : ev T x = .x (.string (bs l))) (hl : l.length ≤ 1000000)
    (hK : ∀ b cap, l.length ≤ cap → cap ≤ maxLen → K (putT T o.dst (.x (.slice (some ⟨b, 0, none⟩) l.length cap))) (.box b (u8a l) :: H)) : Stp P o T H K := by
  intro V O w0 a w Kc Q r hKc
  have hrun := conv_string_bytes (P := P) w src dst e (bs l) hs (by rw [ht, he]) he hu
  have h1 := grownCap_ge w (bs l).size 0 e
  have h2 := grownCap_le_maxLen w (bs l).size 0 e (by rw [bs_size]; unfold maxLen; omega)
  rw [bs_size] at h1 h2 hrun
  have hsl := bs_conv w 0 w.heap.size l.length e (bs l) l rfl (by simp) (by simp) (by simpa using hl) (Nat.zero_le _)
  obtain ⟨ad, cap, e1, _, _, _, _, hc⟩ := hsl
  simp only [Value.slice.injEq] at e1
  obtain ⟨rfl, -, -⟩ := e1
  have hE : Ext w (w.ext #[strObj w e (bs l)] (w.drawn + 1)) := Ext.ext _ _ _
  unfold Oper.wp execOp
  simp only [ho, r.evx hx, hrun, Sem.run_bind, Sem.run_pure, Result.andThen_ok, Oper.upon]
  refine hKc _ _ _ _ (hK w.heap.size _ h1 h2) (Rel.put (Rel.new r hE _ (fun k hk => by cases hk; simp) ?_) _ (by rw [Den]))
  refine ⟨u8s l, DenL.exact, by simp, fun j u hj => ⟨?_, u8s_one l u (List.mem_of_getElem? hj), ?_⟩⟩
  · obtain ⟨x, hx, hu⟩ := hc j u hj
    cases hx
    rwa [add_none, Nat.zero_add] at hu
  · have hjl : j < l.length := by have := (List.getElem?_eq_some_iff.1 hj).1; rwa [u8s_len] at this
    have hb : (w.ext #[strObj w e (bs l)] (w.drawn + 1)).heap[w.heap.size]? = some (strObj w e (bs l)) := by rw [ext_tail (Nat.le_refl _)]; simp
    unfold World.frozen?
    rw [show (w.ext #[strObj w e (bs l)] (w.drawn + 1)).heap[(⟨w.heap.size, j, none⟩ : Addr).block]? = some (strObj w e (bs l)) from hb]
    simp only [strObj]
    have hsz : l.length ≤ (Lib.bytesCells w e (bs l)).size := by
      have h5 : (bs l).data.size = l.length := by simp [bs]
      simp [Lib.bytesCells, h5]
    simp; omega
/-- 'make([]T, n)', an element of one cell. -/
theorem Stp_make (t e : TypeId) (x y : Operand) (z : Value) (bytes : Nat) (kl kc : IntKind) (n c : Nat) (ho : o.op = .makeSlice t x y) (hE : ElemAt P t e z 1 bytes) (hz : z.cells = #[z]) (hz1 : z.oneCell' = true) (hx : ev T x = .x (.int kl n)) (hy : ev T y = .x (.int kc c)) (hnc : n ≤ c) (hf : Fits c bytes)
    (hK : ∀ b, K (putT T o.dst (.x (.slice (some ⟨b, 0, none⟩) n c))) (.row (some ⟨b, 0, none⟩) n c e 1 (List.replicate n (.x z)) :: H)) : Stp P o T H K := by
  intro V O w0 a w Kc Q r hKc
  obtain ⟨i, hi, hzi, hsize, hby⟩ := info_parts hE.info
  have hF := hf
  unfold Fits at hF
  have hm : c ≤ 9223372036854775807 := by have := hF.2; unfold maxLen at this; omega
  have hrun := run_make (P := P) w t e i z hE.under hi hzi kl kc n c (by omega) (by omega) (by rw [hby]; have := hF.1; rw [Nat.mul_comm] at this; have h2 : ((bytes * c : Nat) : Int) ≤ 281474976710656 := by omega
                                                                                               rwa [Int.natCast_mul] at h2) (by omega)
  simp only [Int.toNat_natCast, hsize, Nat.mul_one] at hrun
  unfold Oper.wp execOp
  simp only [ho, r.evx hx, r.evx hy, hrun, Sem.run_bind, Sem.run_pure, Result.andThen_ok, Oper.upon]
  have hmade : madeCells z.cells c = (List.replicate c z).toArray := by
    apply Array.toList_inj.1
    simp only [madeCells, hz]
    apply List.ext_getElem?
    intro j
    simp only [Array.toList_map, Array.toList_range, List.getElem?_map]
    by_cases hj : j < c
    · rw [List.getElem?_range hj]; simp [List.getElem?_replicate, hj, Nat.mod_one]
    · rw [List.getElem?_eq_none (by simpa using hj), List.getElem?_eq_none (by simpa using hj)]; rfl
  refine hKc _ _ _ _ (hK w.heap.size) (Rel.put (Rel.new r (Ext.al w _) _ (fun k hk => by cases hk; simp) ?_) _ (by rw [Den]))
  refine ⟨List.replicate n z, ?_, ⟨by simp, .inr ⟨w.heap.size, c, _, rfl, Nat.zero_le _, heap_alloc_new w _, hnc, hF.2, by rw [hmade]; simp, ?_⟩⟩, fun u hu => by rw [List.eq_of_mem_replicate hu]; exact hz1⟩
  · have : List.replicate n (AV.x z) = (List.replicate n z).map AV.x := by simp
    rw [this]; exact DenL.exact
  · rw [hmade]; simp [hnc]
theorem splice_get {α : Type} (A N : List α) (off j : Nat) (h : off + N.length ≤ A.length) : (A.take off ++ N ++ A.drop (off + N.length))[j]? = if j < off then A[j]? else if j < off + N.length then N[j - off]? else A[j]? := by
  by_cases h3 : j < off
  · rw [List.append_assoc, List.getElem?_append_left (by simp; omega), List.getElem?_take, if_pos h3, if_pos h3]
  · rw [if_neg h3]
    by_cases h4 : j < off + N.length
    · rw [if_pos h4, List.append_assoc, List.getElem?_append_right (by simp; omega), List.length_take, show min off A.length = off from by omega, List.getElem?_append_left (by omega)]
    · rw [if_neg h4, List.getElem?_append_right (by simp; omega)]
      simp only [List.length_append, List.length_take, List.getElem?_drop]
      congr 1
      omega
/-- A store into a row of the call's own: one element of one cell, or one cell of an element. -/
theorem Stp_store_row (i : Nat) (t : TypeId) (x y : Operand) (b off : Nat) (n cap : Nat) (e : TypeId) (size : Nat) (cells : List AV) (ho : o.op = .store t x y) (hx : ev T x = .x (.pointer (some ⟨b, off, none⟩))) (hi : H[i]? = some (.row (some ⟨b, 0, none⟩) n cap e size cells))
    (ht : (P.info? t).map (·.size) = some (ev T y).cells.length) (h1 : (ev T y).cells.all AV.one = true) (hn : off + (ev T y).cells.length ≤ cells.length)
    (hK : K (putT T o.dst (.x undef)) (H.set i (.row (some ⟨b, 0, none⟩) n cap e size (spl cells off (ev T y).cells)))) : Stp P o T H K := by
  intro V O w0 a w Kc Q r hKc
  obtain ⟨vals, hd, hown, hones⟩ := r.hp i _ hi
  have hy := (r.ev y).cells h1
  have hlen : (a.eval y).cells.size = (ev T y).cells.length := by have := hy.len; simpa using this
  have hvl := hd.len
  obtain ⟨hvn, hcase⟩ := hown
  rcases hcase with ⟨e0, _⟩ | ⟨g, cap', cur, e0, hbg, hg, hnc, hcm, hcs, htake⟩
  · cases e0
  simp only [Value.slice.injEq, Option.some.injEq, Addr.mk.injEq] at e0
  obtain ⟨⟨rfl, -, -⟩, -, rfl⟩ := e0
  have hcurlen : vals.length ≤ cur.size := by rw [hcs, hvn]; exact Nat.mul_le_mul_right _ hnc
  have hst := run_storeCells_at P b off e (a.eval y).cells.toList 0 cur w hg (by simp; omega) (hy.one h1)
  simp only [Nat.add_zero] at hst
  have hrun : (storeVar t ⟨b, off, none⟩ (a.eval y)).run P w = .ok () (w.setRow b (cur.toList.take off ++ (a.eval y).cells.toList ++ cur.toList.drop (off + (a.eval y).cells.toList.length)).toArray) := by
    cases hq : P.info? t with
    | none => simp [hq] at ht
    | some i =>
      have : (a.eval y).cells.size = i.size := by simp [hq] at ht; omega
      simp [storeVar, sizeOf, typeInfo, hq, this] at hst ⊢
      exact hst
  have hset := setRow_heap w b cur (cur.toList.take off ++ (a.eval y).cells.toList ++ cur.toList.drop (off + (a.eval y).cells.toList.length)).toArray e (0, 0) hg
  have hF : ∀ k, FB V (H.set i (.row (some ⟨b, 0, none⟩) n cap e size (spl cells off (ev T y).cells))) k → FB V H k := by
    intro k hk
    rcases hk with hk | ⟨z, hz, e⟩
    · exact .inl hk
    · rcases List.mem_or_eq_of_mem_set hz with hz | rfl
      · exact .inr ⟨z, hz, e⟩
      · exact .inr ⟨_, List.mem_of_getElem? hi, e⟩
  have hother : ∀ k, k ≠ b → (w.setRow b (cur.toList.take off ++ (a.eval y).cells.toList ++ cur.toList.drop (off + (a.eval y).cells.toList.length)).toArray).heap[k]? = w.heap[k]? := fun k hk => setRow_other w b k _ hk
  have hsz : (w.setRow b (cur.toList.take off ++ (a.eval y).cells.toList ++ cur.toList.drop (off + (a.eval y).cells.toList.length)).toArray).heap.size = w.heap.size := by simp [World.setRow]
  have hbl : b < w.heap.size := (Array.getElem?_eq_some_iff.1 hg).1
  refine wp_store_of ho (r.evx hx) hrun (hKc _ _ _ _ hK (Rel.put (Rel.turnAt (w' := w.setRow b (cur.toList.take off ++ (a.eval y).cells.toList ++ cur.toList.drop (off + (a.eval y).cells.toList.length)).toArray) (y := .row (some ⟨b, 0, none⟩) n cap e size (spl cells off (ev T y).cells)) r i hi rfl rfl rfl (by omega) (fun k _ hk => hother k (fun e => hk (by rw [e]; rfl))) (fun k hk => ⟨by simp [Hp.blk] at hk; omega, .inl hk⟩) ?_) _ (v := undef) (by rw [Den])))
  have hw : ∀ k, k < w.heap.size → ¬ FB V H k → (w.setRow b (cur.toList.take off ++ (a.eval y).cells.toList ++ cur.toList.drop (off + (a.eval y).cells.toList.length)).toArray).heap[k]? = w.heap[k]? := fun k _ hn => hother k fun e => hn (.inr ⟨_, List.mem_of_getElem? hi, by rw [e]; rfl⟩)
  refine ⟨vals.take off ++ (a.eval y).cells.toList ++ vals.drop (off + (a.eval y).cells.toList.length), DenL.conv (fun k hk => .inl (hF k hk)) hw _ _ (hd.spl hy off), ⟨?_, .inr ⟨b, cap, _, rfl, Nat.zero_le _, hset, hnc, hcm, ?_, ?_⟩⟩, fun u hu => ?_⟩
  · simp; omega
  · simp; omega
  · have hvt : vals = cur.toList.take vals.length := by rw [hvn]; exact htake.symm
    have hcl : cur.toList.length = cur.size := Array.length_toList
    rw [← hvn]
    apply List.ext_getElem?
    intro j
    have hnl : (a.eval y).cells.toList.length = (a.eval y).cells.size := Array.length_toList
    have hvj : ∀ j, j < vals.length → vals[j]? = cur.toList[j]? := fun j hj => by
      conv => lhs; rw [hvt]
      rw [List.getElem?_take, if_pos hj]
    rw [List.getElem?_take]
    split
    · rename_i hj
      rw [splice_get _ _ _ _ (by omega), splice_get _ _ _ _ (by omega)]
      split
      · exact (hvj j hj).symm
      · split
        · rfl
        · exact (hvj j hj).symm
    · rename_i hj
      rw [List.getElem?_eq_none]
      simp; omega
  · simp only [List.mem_append] at hu
    rcases hu with (hu | hu) | hu
    · exact hones u (List.mem_of_mem_take hu)
    · exact hy.one h1 u hu
    · exact hones u (List.mem_of_mem_drop hu)
/-- The address of an element of a row whose block is known. -/
theorem Evl_index_own (t e : TypeId) (x y : Operand) (size b off n cap : Nat) (k : IntKind) (i : Int) (j : Nat) (ho : o.op = .indexAddr t x y) (hx : ρ x = .x (.slice (some ⟨b, off, none⟩) n cap)) (hy : ρ y = .x (.int k i)) (ht : elT P t = some (e, size)) (hi : i = (j : Int)) (h1 : j < n) : Evl P o ρ H (.x (.pointer (some ⟨b, off + j * size, none⟩))) := by
  subst hi
  intro V a w Kc Q r hKc
  exact wp_index_of ho ht (r.evx (by simp [ho, Op.operands]) hx) (r.evx (by simp [ho, Op.operands]) hy) (by omega) (by omega) (hKc _ _ (Below.refl _ _) (by simp [Den]))
/-- A part of a row whose block is known. -/
theorem Evl_slice_own (t e : TypeId) (x : Operand) (lo hi : Option Operand) (size b off n cap l h : Nat) (ho : o.op = .slice t x lo hi none) (hx : ρ x = .x (.slice (some ⟨b, off, none⟩) n cap)) (ht : elT P t = some (e, size))
    (hlo : (lo = none ∧ l = 0) ∨ ∃ y k, lo = some y ∧ ρ y = .x (.int k l)) (hhi : (hi = none ∧ h = n) ∨ ∃ y k, hi = some y ∧ ρ y = .x (.int k h)) (h1 : l ≤ h) (h2 : h ≤ cap) : Evl P o ρ H (.x (.slice (if cap = l then some ⟨b, off, none⟩ else some ⟨b, off + l * size, none⟩) (h - l) (cap - l))) := by
  intro V a w Kc Q r hKc
  have hrun := run_sliceAt (P := P) t e size ht (some ⟨b, off, none⟩) n cap (lo.map a.eval) (hi.map a.eval) l h (by
    rcases hlo with ⟨rfl, rfl⟩ | ⟨y, k, rfl, hy⟩
    · exact .inl ⟨rfl, rfl⟩
    · exact .inr ⟨k, by rw [Option.map_some, r.evx (by simp [ho, Op.operands]) hy]⟩) (by
    rcases hhi with ⟨rfl, rfl⟩ | ⟨y, k, rfl, hy⟩
    · exact .inl ⟨rfl, rfl⟩
    · exact .inr ⟨k, by rw [Option.map_some, r.evx (by simp [ho, Op.operands]) hy]⟩) h1 h2 w
  unfold Oper.wp execOp
  simp only [ho, r.evx (by simp [ho, Op.operands]) hx, Option.map_none, hrun, Sem.run_bind, Sem.run_pure, Result.andThen_ok, Oper.upon]
  refine hKc _ _ (Below.refl _ _) ?_
  rw [Den]; simp [add_none]
/-- A row is known by its first elements alone. -/
theorem awp_shrink {c : Code} (i k : Nat) {ad : Option Addr} {n cap : Nat} {e : TypeId} {size : Nat} {cells : List AV} (hi : H[i]? = some (.row ad n cap e size cells)) (hk : k ≤ n) (h0 : k = 0 → n = 0 ∨ True) (hne : ad ≠ none)
    (h : awp P c Q T (H.set i (.row ad k cap e size (cells.take (k * size))))) : awp P c Q T H := fun V O w0 a w r => by
  refine h V O w0 a w (Rel.turnAt (y := .row ad k cap e size (cells.take (k * size))) r i hi rfl rfl rfl (Nat.le_refl _) (fun _ _ _ => rfl) (fun k' hk' => ⟨(r.hok.lt _ (List.mem_of_getElem? hi) k' hk').1, .inl hk'⟩) ?_)
  have hF : ∀ k', FB V (H.set i (.row ad k cap e size (cells.take (k * size)))) k' → FB V H k' := by
    intro k' hk'
    rcases hk' with hk' | ⟨z, hz, e⟩
    · exact .inl hk'
    · rcases List.mem_or_eq_of_mem_set hz with hz | rfl
      · exact .inr ⟨z, hz, e⟩
      · exact .inr ⟨_, List.mem_of_getElem? hi, e⟩
  obtain ⟨vals, hd, hown, h1⟩ := r.hp i _ hi
  refine ⟨vals.take (k * size), (hd.take _).weak hF, ?_, fun u hu => h1 u (List.mem_of_mem_take hu)⟩
  obtain ⟨hl, ⟨e0, rfl⟩ | ⟨g, cap', cur, e0, hbg, hg, hnc, hcm, hcs, htake⟩⟩ := hown
  · cases e0; exact absurd rfl hne
  · simp only [Value.slice.injEq] at e0
    obtain ⟨rfl, -, rfl⟩ := e0
    refine ⟨by rw [List.length_take, hl]; have := Nat.mul_le_mul_right size hk; omega, .inr ⟨g, cap, cur, rfl, hbg, hg, by omega, hcm, hcs, ?_⟩⟩
    rw [← htake, List.take_take]; congr 1; have := Nat.mul_le_mul_right size hk; omega
end
end Go.Proofs.YtfaljkenmbbbaaaDoor
/- A walk over symbolic memory: regions that draw their order and turn memory; jumps; clear. No program in sight. -/
namespace Go.Proofs.YtfaljkenmbbbaaaDoor
open Go.RowKit
set_option linter.unusedSimpArgs false
set_option linter.unusedVariables false
section
variable {P : Program} {V O : Nat → Prop} {w0 w w' : World} {H H' D : List Hp} {T T' : List AV} {a : Act} {o : Oper} {K : List AV → List Hp → Prop} {ρ : Operand → AV} {ops : Array Oper} {Q : Post} {F : Nat → Prop} {listed : Array Bool} {fuel : Nat}
/-- The i-th operation, reckoned by looking. -/
def nthO : List Oper → Nat → Option Oper
  | [], _ => none
  | o :: _, 0 => some o
  | _ :: l, n + 1 => nthO l n
theorem nthO_eq : ∀ (l : List Oper) (i : Nat), nthO l i = l[i]?
  | [], i => by simp [nthO]
  | o :: l, 0 => by simp [nthO]
  | o :: l, i + 1 => by simp [nthO, nthO_eq l i]
/-- The rest of such a region, those listed done. -/
def awpA (P : Program) (ops : Array Oper) (Q : Post) (fuel : Nat) (listed : Array Bool) (T : List AV) (H : List Hp) : Prop :=
  ∀ V O w0 a w, Rel V O w0 H T a w → wpAny P .any ops (lift V O w0 Q) fuel listed a w
theorem awp_drawnA {id : Nat} {l : List Oper} (hm : P.follows .mixedOrders = true) (h : awpA P l.toArray Q l.length (Array.replicate l.length false) T H) : awp P (.region id l.toArray true) Q T H :=
  awp_drawn hm fun V O w0 a w r => by have := h V O w0 a w r; simpa using this
theorem awpA_cong {T' : List AV} {H' : List Hp} (hT : T = T') (hH : H = H') (h : awpA P ops Q fuel listed T' H') : awpA P ops Q fuel listed T H := hT ▸ hH ▸ h
theorem awpA_done (hr : Region.ready .any ops listed = []) (h : Q .normal T H) : awpA P ops Q fuel listed T H := fun V O w0 a w r => wpAny_done hr ⟨T, H, r, h⟩ fuel
/-- What the operation gives hangs on no memory. -/
def WInd (P : Program) (o : Oper) (ρ : Operand → AV) (H : List Hp) (av : AV) : Prop :=
  ∀ (V : Nat → Prop) (a : Act) (w : World), OK V H ρ o a w → ∃ v, (∀ w', (execOp a.eval o).run P w' = .ok (.value v) w') ∧ Den (FB V H) w av v
def takeOk (ops : Array Oper) (listed : Array Bool) (i : Nat) : Bool := Region.noSelect ops && Region.free .any ops listed i && (Region.ready .any ops listed).contains i
theorem awpA_take (i : Nat) {o : Oper} {l : List Oper} (hi : nthO l i = some o) (hg : o.guard = none) (hc : takeOk l.toArray listed i = true) (hpan : ∀ c T H, ¬ Q (.panic c) T H) (av : AV) (h : WInd P o (ev T) H av) (hK : awpA P l.toArray Q fuel (listed.setIfInBounds i true) (putT T o.dst av) H) : awpA P l.toArray Q (fuel + 1) listed T H := by
  have hi : l.toArray[i]? = some o := by rw [List.getElem?_toArray, ← nthO_eq]; exact hi
  intro V O w0 a w r
  unfold takeOk at hc
  simp only [Bool.and_eq_true] at hc
  obtain ⟨v, hv, hd⟩ := h V a w (r.oks o)
  refine wpAny_take hi hc.1.1 hc.1.2 hc.2 (fun c a w ⟨T, H, _, hq⟩ => absurd hq (hpan c T H)) (.inl ⟨by simp [Region.wanted, hg], hv⟩) (hK V O w0 _ w (r.put _ hd))
theorem wpOp_of_stp {i : Nat} (hi : ops[i]? = some o) (hg : o.guard = none) (h : Stp P o T H K) (V O : Nat → Prop) (w0 : World) (r : Rel V O w0 H T a w) (Kc : Act → World → Prop) (Qc : Exit → Act → World → Prop) (hK : ∀ T' H' a' w', K T' H' → Rel V O w0 H' T' a' w' → Kc a' w') : wpOp P ops Qc i Kc a w := by
  unfold wpOp
  simp only [hi]
  rw [if_pos (by simp [Region.wanted, hg])]
  exact .inl (h V O w0 a w Kc Qc r hK)
/-- One operation may come up. -/
theorem awpA_1 (i : Nat) {o : Oper} {l : List Oper} (hr : Region.ready .any l.toArray listed = [i]) (hi : nthO l i = some o) (hg : o.guard = none) (h : Stp P o T H (awpA P l.toArray Q fuel (listed.setIfInBounds i true))) : awpA P l.toArray Q (fuel + 1) listed T H := fun V O w0 a w r =>
  wpAny_all hr (by simp) fun j hj => by
    rw [List.mem_singleton] at hj; subst hj
    have hi : l.toArray[j]? = some o := by rw [List.getElem?_toArray, ← nthO_eq]; exact hi
    exact wpOp_of_stp hi hg h V O w0 r _ _ fun T' H' a' w' hk hr => hk V O w0 a' w' hr
/-- One of two may come up. -/
theorem awpA_2 (i j : Nat) {o q : Oper} {l : List Oper} (hr : Region.ready .any l.toArray listed = [i, j]) (hi : nthO l i = some o) (hg : o.guard = none) (hj : nthO l j = some q) (hgj : q.guard = none) (h : Stp P o T H (awpA P l.toArray Q fuel (listed.setIfInBounds i true))) (h2 : Stp P q T H (awpA P l.toArray Q fuel (listed.setIfInBounds j true))) : awpA P l.toArray Q (fuel + 1) listed T H := fun V O w0 a w r =>
  wpAny_all hr (by simp) fun k hk => by
    have hi : l.toArray[i]? = some o := by rw [List.getElem?_toArray, ← nthO_eq]; exact hi
    have hj : l.toArray[j]? = some q := by rw [List.getElem?_toArray, ← nthO_eq]; exact hj
    rcases List.mem_cons.1 hk with rfl | hk
    · exact wpOp_of_stp hi hg h V O w0 r _ _ fun T' H' a' w' hk hr => hk V O w0 a' w' hr
    · rw [List.mem_singleton] at hk; subst hk
      exact wpOp_of_stp hj hgj h2 V O w0 r _ _ fun T' H' a' w' hk hr => hk V O w0 a' w' hr
theorem WInd_mv (x : Operand) (ho : o.op = .move x) : WInd P o ρ H (ρ x) := fun V a w r => ⟨a.eval x, fun w' => by simp [execOp, ho], r.ops x (by simp [ho, Op.operands])⟩
theorem WInd_as (x : Operand) (ho : o.op = .assign x) : WInd P o ρ H (ρ x) := fun V a w r => ⟨a.eval x, fun w' => by simp [execOp, ho], r.ops x (by simp [ho, Op.operands])⟩
theorem WInd_x (v : Value) (hs : ∀ cs b, o.op ≠ .select cs b) (hx : (o.op.operands.toList.all fun x => (ρ x).ex) = true)
    (hrun : ∀ w, (execOp (fun x => (ρ x).val) o).run P w = .ok (.value v) w) : WInd P o ρ H (.x v) := fun V a w r => ⟨v, fun w' => by
  have he : execOp a.eval o = execOp (fun x => (ρ x).val) o := execOp_congr o hs fun x h => by
    have hex := List.all_eq_true.1 hx x (by simpa using h)
    have hd := r.ops x h
    cases hv : ρ x with
    | x v => rw [hv, Den] at hd; rw [hd]; rfl
    | _ => rw [hv] at hex; cases hex
  rw [he]; exact hrun w', by rw [Den]⟩
theorem WInd_nil (x : Operand) (b off : Nat) (ho : o.op = .nilCheck x) (hx : ρ x = .x (.pointer (some ⟨b, off, none⟩))) : WInd P o ρ H (.x (.pointer (some ⟨b, off, none⟩))) := fun V a w r =>
  ⟨.pointer (some ⟨b, off, none⟩), fun w' => by simp [execOp, ho, r.evx (by simp [ho, Op.operands]) hx], by rw [Den]⟩
theorem WInd_field_x (s : TypeId) (x : Operand) (f k b off : Nat) (ho : o.op = .fieldAddr s x f) (hx : ρ x = .x (.pointer (some ⟨b, off, none⟩))) (hk : fldT P s f = some k) : WInd P o ρ H (.x (.pointer (some ⟨b, off + k, none⟩))) := fun V a w r =>
  ⟨.pointer (some ⟨b, off + k, none⟩), fun w' => by simp [execOp, ho, r.evx (by simp [ho, Op.operands]) hx, run_fieldAt s f k hk], by rw [Den]⟩
theorem WInd_index_own (t e : TypeId) (x y : Operand) (size b off n cap : Nat) (k : IntKind) (i : Int) (j : Nat) (ho : o.op = .indexAddr t x y) (hx : ρ x = .x (.slice (some ⟨b, off, none⟩) n cap)) (hy : ρ y = .x (.int k i)) (ht : elT P t = some (e, size)) (hi : i = (j : Int)) (h1 : j < n) : WInd P o ρ H (.x (.pointer (some ⟨b, off + j * size, none⟩))) := by
  subst hi
  exact fun V a w r => ⟨.pointer (some ⟨b, off + j * size, none⟩), fun w' => by simp [execOp, ho, r.evx (x := x) (by simp [ho, Op.operands]) hx, r.evx (x := y) (by simp [ho, Op.operands]) hy, run_indexAt t e size ht b off n cap k j (by omega) (by omega)], by rw [Den]⟩
theorem WInd_k (n : Nat) {av : AV} (hk : opk o.op = n) (h : WInd P o ρ H av) : WInd P o ρ H av := h

/-- A guard that says no. -/
theorem awpL_gf {rest : List Oper} {j : Nat} {want : Bool} {t : Nat} {T' : List AV} (hg : o.guard = some (j, want)) (hd : (ops[j]?).bind (·.dst) = some t) (hp : gdc want (T.getD t .top) = some false) (hT : putT T o.dst (.x undef) = T') (hK : awpL P ops Q rest T' H) : awpL P ops Q (o :: rest) T H := fun V O w0 a w r =>
  wpList_step fun K hKc => by
    rw [wanted_of r hg hd hp]
    simp only [Bool.false_eq_true, if_false]
    exact hKc _ _ ((hT ▸ hK) V O w0 _ _ (r.put _ (by rw [Den])))
theorem dr_gf {rest : List Oper} {fin : List AV → Prop} {j : Nat} {want : Bool} {t : Nat} {T' : List AV} (hg : o.guard = some (j, want)) (hd : (ops[j]?).bind (·.dst) = some t) (hp : gdc want (T.getD t .top) = some false) (hT : putT T o.dst (.g false .top) = T') (hK : dr P H ops rest T' fin) : dr P H ops (o :: rest) T fin :=
  dr_g false .top hg hd hp (fun h => by cases h) (hT ▸ hK)
/-! ### Jumps -/

def jumpA (l : Nat) (J : List AV → List Hp → Prop) (Q : Post) : Post
  | .goto l', T, H => l' = l ∧ J T H
  | e, T, H => Q e T H
theorem jumpA_normal {l : Nat} {J : List AV → List Hp → Prop} (h : Q .normal T H) : jumpA l J Q .normal T H := h
theorem jumpA_exit {l id : Nat} {J : List AV → List Hp → Prop} (h : Q (.exit id) T H) : jumpA l J Q (.exit id) T H := h
theorem jumpA_ret {l : Nat} {J : List AV → List Hp → Prop} (h : Q .ret T H) : jumpA l J Q .ret T H := h
theorem jumpA_goto {l : Nat} {J : List AV → List Hp → Prop} (h : J T H) : jumpA l J Q (.goto l) T H := ⟨rfl, h⟩
theorem awp_label {l : Nat} (h : Q .normal T H) : awp P (.label l) Q T H := fun V O w0 a w r => wp_label ⟨T, H, r, h⟩
theorem awp_goto {l : Nat} (h : Q (.goto l) T H) : awp P (.goto l) Q T H := fun V O w0 a w r => wp_goto ⟨T, H, r, h⟩
/-- A piece of code in which the run jumps back to one label. -/
theorem awp_scopeS {S : Type} {c rest : Code} (l : Nat) (Tf : S → List AV) (Hf : S → List Hp) (Inv : S → Prop) (m : S → Nat) (hf : findLabel c l = some rest)
    (first : awp P c (jumpA l (fun T' H' => ∃ s', Inv s' ∧ Weak H' T' (Hf s') (Tf s')) Q) T H)
    (pass : ∀ s, Inv s → awp P rest (jumpA l (fun T' H' => ∃ s', m s' < m s ∧ Inv s' ∧ Weak H' T' (Hf s') (Tf s')) Q) (Tf s) (Hf s)) : awp P (.scope c) Q T H := by
  intro V O w0 a w r b k cs
  have hg : gotoIn l (.inScope c :: k) = some (.code rest :: .inScope c :: k) := by simp [gotoIn, hf]
  have key : ∀ n s a w, m s = n → Inv s → Rel V O w0 (Hf s) (Tf s) a w → ∃ e a' w', lift V O w0 Q e a' w' ∧ Arrives P (lone (b.at a (.code rest :: .inScope c :: k)) cs w) b k cs e a' w' := by
    intro n
    induction n using Nat.strongRecOn with
    | _ n ih =>
      intro s a w hn hI hr
      obtain ⟨e, a₁, w₁, ⟨T1, H1, r1, q1⟩, harr⟩ := pass s hI V O w0 a w hr b (.inScope c :: k) cs
      cases e with
      | normal => exact ⟨.normal, a₁, w₁, ⟨T1, H1, r1, q1⟩, Steps.trans harr (.one step_inScope)⟩
      | exit id => exact ⟨.exit id, a₁, w₁, ⟨T1, H1, r1, q1⟩, fun k' hk => harr k' (by simp [exitTo, hk])⟩
      | goto l' =>
        obtain ⟨rfl, s', hlt, hI', hw⟩ := q1
        obtain ⟨e₂, a₂, w₂, hq₂, harr₂⟩ := ih (m s') (by omega) s' a₁ w₁ rfl hI' (r1.weaken hw)
        exact ⟨e₂, a₂, w₂, hq₂, .of_steps (harr _ hg) harr₂⟩
      | ret => exact ⟨_, a₁, w₁, ⟨T1, H1, r1, q1⟩, harr⟩
      | panic ch => exact ⟨_, a₁, w₁, ⟨T1, H1, r1, q1⟩, harr⟩
      | outgrown => exact ⟨_, a₁, w₁, ⟨T1, H1, r1, q1⟩, harr⟩
  obtain ⟨e, a₁, w₁, ⟨T1, H1, r1, q1⟩, harr⟩ := first V O w0 a w r b (.inScope c :: k) cs
  cases e with
  | normal => exact ⟨.normal, a₁, w₁, ⟨T1, H1, r1, q1⟩, .head step_scope (Steps.trans harr (.one step_inScope))⟩
  | exit id => exact ⟨.exit id, a₁, w₁, ⟨T1, H1, r1, q1⟩, fun k' hk => .head step_scope (harr k' (by simp [exitTo, hk]))⟩
  | goto l' =>
    obtain ⟨rfl, s', hI', hw⟩ := q1
    obtain ⟨e₂, a₂, w₂, hq₂, harr₂⟩ := key _ s' a₁ w₁ rfl hI' (r1.weaken hw)
    exact ⟨e₂, a₂, w₂, hq₂, .of_steps (.head step_scope (harr _ hg)) harr₂⟩
  | ret => exact ⟨_, a₁, w₁, ⟨T1, H1, r1, q1⟩, .of_steps (.one step_scope) harr⟩
  | panic ch => exact ⟨_, a₁, w₁, ⟨T1, H1, r1, q1⟩, .of_steps (.one step_scope) harr⟩
  | outgrown => exact ⟨_, a₁, w₁, ⟨T1, H1, r1, q1⟩, .of_steps (.one step_scope) harr⟩
end
end Go.Proofs.YtfaljkenmbbbaaaDoor
/- A walk over symbolic memory: 'clear'. No program in sight. -/
namespace Go.Proofs.YtfaljkenmbbbaaaDoor
open Go.RowKit
set_option linter.unusedSimpArgs false
set_option linter.unusedVariables false
section
variable {P : Program} {V O : Nat → Prop} {w0 w w' : World} {H H' D : List Hp} {T T' : List AV} {a : Act} {o : Oper} {K : List AV → List Hp → Prop} {ρ : Operand → AV} {ops : Array Oper} {Q : Post} {F : Nat → Prop}
/-- New cells in a row of the call's own. -/
theorem Rel.rowset (P : Program) (r : Rel V O w0 H T a w) (i : Nat) (b off n cap : Nat) (e : TypeId) (size : Nat) (cells new : List AV) (us : List Value) (hi : H[i]? = some (.row (some ⟨b, 0, none⟩) n cap e size cells)) (hy : DenL (FB V H) w new us) (h1 : ∀ u ∈ us, u.oneCell' = true) (hn : off + new.length ≤ cells.length) :
    ∃ w', (storeCells ⟨b, off, none⟩ us).run P w = .ok () w' ∧ Rel V O w0 (H.set i (.row (some ⟨b, 0, none⟩) n cap e size (spl cells off new))) T a w' := by
  obtain ⟨vals, hd, hown, hones⟩ := r.hp i _ hi
  have hlen : us.length = new.length := hy.len.symm ▸ rfl
  have hvl := hd.len
  obtain ⟨hvn, hcase⟩ := hown
  rcases hcase with ⟨e0, _⟩ | ⟨g, cap', cur, e0, hbg, hg, hnc, hcm, hcs, htake⟩
  · cases e0
  simp only [Value.slice.injEq, Option.some.injEq, Addr.mk.injEq] at e0
  obtain ⟨⟨rfl, -, -⟩, -, rfl⟩ := e0
  have hcurlen : vals.length ≤ cur.size := by rw [hcs, hvn]; exact Nat.mul_le_mul_right _ hnc
  have hst := run_storeCells_at P b off e us 0 cur w hg (by simp; omega) h1
  simp only [Nat.add_zero] at hst
  have hset := setRow_heap w b cur (cur.toList.take off ++ us ++ cur.toList.drop (off + us.length)).toArray e (0, 0) hg
  have hF : ∀ k, FB V (H.set i (.row (some ⟨b, 0, none⟩) n cap e size (spl cells off new))) k → FB V H k := by
    intro k hk
    rcases hk with hk | ⟨z, hz, e⟩
    · exact .inl hk
    · rcases List.mem_or_eq_of_mem_set hz with hz | rfl
      · exact .inr ⟨z, hz, e⟩
      · exact .inr ⟨_, List.mem_of_getElem? hi, e⟩
  have hother : ∀ k, k ≠ b → (w.setRow b (cur.toList.take off ++ us ++ cur.toList.drop (off + us.length)).toArray).heap[k]? = w.heap[k]? := fun k hk => setRow_other w b k _ hk
  have hsz : (w.setRow b (cur.toList.take off ++ us ++ cur.toList.drop (off + us.length)).toArray).heap.size = w.heap.size := by simp [World.setRow]
  have hbl : b < w.heap.size := (Array.getElem?_eq_some_iff.1 hg).1
  refine ⟨_, hst, Rel.turnAt (w' := w.setRow b (cur.toList.take off ++ us ++ cur.toList.drop (off + us.length)).toArray) (y := .row (some ⟨b, 0, none⟩) n cap e size (spl cells off new)) r i hi rfl rfl rfl (by omega) (fun k _ hk => hother k (fun e => hk (by rw [e]; rfl))) (fun k hk => ⟨by simp [Hp.blk] at hk; omega, .inl hk⟩) ?_⟩
  have hw : ∀ k, k < w.heap.size → ¬ FB V H k → (w.setRow b (cur.toList.take off ++ us ++ cur.toList.drop (off + us.length)).toArray).heap[k]? = w.heap[k]? := fun k _ hn => hother k fun e => hn (.inr ⟨_, List.mem_of_getElem? hi, by rw [e]; rfl⟩)
  refine ⟨vals.take off ++ us ++ vals.drop (off + us.length), DenL.conv (fun k hk => .inl (hF k hk)) hw _ _ (hd.spl hy off), ⟨?_, .inr ⟨b, cap, _, rfl, Nat.zero_le _, hset, hnc, hcm, ?_, ?_⟩⟩, fun u hu => ?_⟩
  · simp; omega
  · simp; omega
  · have hvt : vals = cur.toList.take vals.length := by rw [hvn]; exact htake.symm
    have hcl : cur.toList.length = cur.size := Array.length_toList
    rw [← hvn]
    apply List.ext_getElem?
    intro j
  
    have hvj : ∀ j, j < vals.length → vals[j]? = cur.toList[j]? := fun j hj => by
      conv => lhs; rw [hvt]
      rw [List.getElem?_take, if_pos hj]
    rw [List.getElem?_take]
    split
    · rename_i hj
      rw [splice_get _ _ _ _ (by omega), splice_get _ _ _ _ (by omega)]
      split
      · exact (hvj j hj).symm
      · split
        · rfl
        · exact (hvj j hj).symm
    · rename_i hj
      rw [List.getElem?_eq_none]
      simp; omega
  · simp only [List.mem_append] at hu
    rcases hu with (hu | hu) | hu
    · exact hones u (List.mem_of_mem_take hu)
    · exact h1 u hu
    · exact hones u (List.mem_of_mem_drop hu)
/-- 'clear(s)', s a part of a row of the call's own. -/
theorem Stp_clear (i : Nat) (x : Operand) (t e : TypeId) (z : Value) (bytes b off m mc n cap : Nat) (cells : List AV) (ho : o.op = .call { callee := .builtin .clear, args := #[x], argTypes := #[t] }) (hx : ev T x = .x (.slice (some ⟨b, off, none⟩) m mc)) (hi : H[i]? = some (.row (some ⟨b, 0, none⟩) n cap e 1 cells))
    (hE : ElemAt P t e z 1 bytes) (hz : z.cells = #[z]) (hz1 : z.oneCell' = true) (hn : off + m ≤ cells.length)
    (hK : K (putT T o.dst .top) (H.set i (.row (some ⟨b, 0, none⟩) n cap e 1 (spl cells off (List.replicate m (.x z)))))) : Stp P o T H K := by
  intro V O w0 a w Kc Q r hKc
  obtain ⟨w', hst, hr⟩ := Rel.rowset P r i b off n cap e 1 cells (List.replicate m (.x z)) (List.replicate m z) hi (by rw [← List.map_replicate]; exact DenL.exact) (fun u hu => by rw [List.eq_of_mem_replicate hu]; exact hz1) (by simpa using hn)
  have hzc : (Builtin.zeroCells z.cells m).toList = List.replicate m z := by
    rw [hz]
    simp [Builtin.zeroCells]
    apply List.ext_getElem
    · simp
    · intro i h1 h2
      simp [Nat.mod_one]
  obtain ⟨it, hit, hz0, hsize, hby⟩ := info_parts hE.info
  have hrun : (Builtin.clear_ #[t] o.type #[.slice (some ⟨b, off, none⟩) m mc]).run P w = .ok (.tuple #[]) w' := by
    cases m with
    | zero =>
      simp only [List.replicate_zero, storeCells] at hst
      simp at hst
      simp [Builtin.clear_, run_underlying hE.under, hst]
    | succ m => simp [Builtin.clear_, run_underlying hE.under, zeroValue, typeInfo, hit, hz0, hzc, hst]
  unfold Oper.wp execOp
  simp only [ho, resolve, invoke, builtin, Sem.run_bind, Sem.run_pure, Result.andThen_ok, List.map_toArray, List.map_cons, List.map_nil, r.evx hx, hrun, Oper.upon]
  exact hKc _ _ _ _ hK (Rel.put hr _ (by rw [Den]; trivial))
/-- What is known of a row of the call's own. -/
theorem row_known (r : Rel V O w0 H T a w) (i : Nat) {ad : Option Addr} {n cap : Nat} {e : TypeId} {size : Nat} {cells : List AV} (hi : H[i]? = some (.row ad n cap e size cells)) :
    n ≤ cap ∧ cells.length = n * size ∧ ((ad = none ∧ n = 0 ∧ cap = 0) ∨ ∃ b, ad = some ⟨b, 0, none⟩) := by
  obtain ⟨vals, hd, hown, hones⟩ := r.hp i _ hi
  have hvl := hd.len
  obtain ⟨hvn, hcase⟩ := hown
  rcases hcase with ⟨e0, hv⟩ | ⟨g, cap', cur, e0, hbg, hg, hnc, hcm, hcs, htake⟩
  · simp only [Value.slice.injEq] at e0
    obtain ⟨rfl, rfl, rfl⟩ := e0
    exact ⟨Nat.le_refl _, by omega, .inl ⟨rfl, rfl, rfl⟩⟩
  · simp only [Value.slice.injEq] at e0
    obtain ⟨rfl, -, rfl⟩ := e0
    exact ⟨hnc, by omega, .inr ⟨g, rfl⟩⟩
theorem awp_row {c : Code} (i : Nat) {ad : Option Addr} {n cap : Nat} {e : TypeId} {size : Nat} {cells : List AV} (hi : H[i]? = some (.row ad n cap e size cells))
    (h : n ≤ cap → cells.length = n * size → ((ad = none ∧ n = 0 ∧ cap = 0) ∨ ∃ b, ad = some ⟨b, 0, none⟩) → awp P c Q T H) : awp P c Q T H := fun V O w0 a w r =>
  h (row_known r i hi).1 (row_known r i hi).2.1 (row_known r i hi).2.2 V O w0 a w r
theorem awpL_row {rest : List Oper} (i : Nat) {ad : Option Addr} {n cap : Nat} {e : TypeId} {size : Nat} {cells : List AV} (hi : H[i]? = some (.row ad n cap e size cells))
    (h : n ≤ cap → cells.length = n * size → ((ad = none ∧ n = 0 ∧ cap = 0) ∨ ∃ b, ad = some ⟨b, 0, none⟩) → awpL P ops Q rest T H) : awpL P ops Q rest T H := fun V O w0 a w r =>
  h (row_known r i hi).1 (row_known r i hi).2.1 (row_known r i hi).2.2 V O w0 a w r
theorem ifcap {cap l : Nat} {x y : Addr} (h : ¬ cap = l) : (if cap = l then some x else some y) = some y := if_neg h
/-- All is known whole. -/
def Hp.flat : Hp → Bool
  | .box _ cells => cells.all AV.ex
  | .row _ _ _ _ _ cells => cells.all AV.ex
theorem DenL.hard {F' : Nat → Prop} {l : List AV} {vs : List Value} (hl : l.all AV.ex = true) (h : DenL F w l vs) : DenL F' w' l vs := by
  rw [ex_val hl] at h ⊢
  rw [h.exact']
  exact DenL.exact
theorem HpOk.hard {F' : Nat → Prop} {h : Hp} (hh : h.flat = true) (ho : HpOk F w h) : HpOk F' w h := by
  cases h with
  | box b cells => obtain ⟨vals, hd, rest⟩ := ho; exact ⟨vals, hd.hard hh, rest⟩
  | row ad n cap e size cells => obtain ⟨vals, hd, rest⟩ := ho; exact ⟨vals, hd.hard hh, rest⟩
/-- Rows lent to a function that gives back what is known whole. -/
theorem Spec.lend {f : FuncId} {args args' : List AV} {Q : AV → List Hp → Prop} (D : List Hp) (h : Spec P f H args' Q) (hv : VwL D args args') (hq : ∀ r H', Q r H' → (∃ v, r = .x v) ∧ ∀ x ∈ H', x.flat = true) : Spec P f (H ++ D) args fun r H' => ∃ H1, Q r H1 ∧ H' = H1 ++ D := by
  intro V w vs hV hH hd hgl
  have hap := List.pairwise_append.1 hH.apart
  have hsub : ∀ k, FB V H k → FB V (H ++ D) k := fun k hk => by
    rcases hk with hk | ⟨x, hx, e⟩
    · exact .inl hk
    · exact .inr ⟨x, by simp [hx], e⟩
  have hDout : ∀ x ∈ D, ∀ k, x.blk = some k → ¬ FB V H k := fun x hx k e hk => by
    rcases hk with hk | ⟨y, hy, e'⟩
    · exact (hH.lt x (by simp [hx]) k e).2 hk
    · exact hap.2.2 y hy x hx k e' e
  have hd' : DenL (FB V H) w args' vs := hv.den hsub (fun x hx => ⟨hH.ok x (by simp [hx]), hDout x hx⟩) _ hd
  refine (h V w vs hV ⟨fun x hx => (hH.ok x (by simp [hx])).weak hsub, hap.1, fun x hx k hk => hH.lt x (by simp [hx]) k hk⟩ hd' (hgl.mono fun k ⟨x, hx, e⟩ => ⟨x, by simp [hx], e⟩)).mono ?_
  rintro e w' ⟨r, H1, v, hqr, rfl, hdv, hok, hfr, hown⟩
  obtain ⟨⟨u, rfl⟩, hflat⟩ := hq r H1 hqr
  have hF : ∀ k, FB V (H1 ++ D) k → FB V (H ++ D) k ∨ w.heap.size ≤ k := fun k hk => by
    rcases hk with hk | ⟨x, hx, e⟩
    · exact .inl (.inl hk)
    · rcases List.mem_append.1 hx with hx | hx
      · rcases hown x hx k e with ⟨y, hy, e'⟩ | h
        · exact .inl (.inr ⟨y, by simp [hy], e'⟩)
        · exact .inr h
      · exact .inl (.inr ⟨x, by simp [hx], e⟩)
  have hw : ∀ k, k < w.heap.size → ¬ FB V (H ++ D) k → w'.heap[k]? = w.heap[k]? := fun k hk hn => hfr.block k hk fun ⟨y, hy, e⟩ => hn (.inr ⟨y, by simp [hy], e⟩)
  refine ⟨_, _, v, ⟨H1, hqr, rfl⟩, rfl, by simp only [Den] at hdv ⊢; exact hdv, ⟨fun x hx => ?_, List.pairwise_append.2 ⟨hok.apart, hap.2.1, fun x hx y hy k hk e => ?_⟩, fun x hx k hk => ?_⟩, ⟨hfr.os, hfr.tape, hfr.output, hfr.size, fun k hk hn => hfr.block k hk fun ⟨y, hy, e⟩ => hn ⟨y, by simp [hy], e⟩⟩, fun x hx k hk => ?_⟩
  · rcases List.mem_append.1 hx with hx | hx
    · exact (hok.ok x hx).hard (hflat x hx)
    · exact (hH.ok x (by simp [hx])).conv hF hw hfr.size fun k hk => hfr.block k (hH.lt x (by simp [hx]) k hk).1 fun ⟨y, hy, e⟩ => hDout x hx k hk (.inr ⟨y, hy, e⟩)
  · rcases hown x hx k hk with ⟨z, hz, e'⟩ | h
    · exact hDout y hy k e (.inr ⟨z, hz, e'⟩)
    · have := (hH.lt y (by simp [hy]) k e).1; omega
  · rcases List.mem_append.1 hx with hx | hx
    · exact hok.lt x hx k hk
    · exact ⟨Nat.lt_of_lt_of_le (hH.lt x (by simp [hx]) k hk).1 hfr.size, (hH.lt x (by simp [hx]) k hk).2⟩
  · rcases List.mem_append.1 hx with hx | hx
    · rcases hown x hx k hk with ⟨y, hy, e⟩ | h
      · exact .inl ⟨y, by simp [hy], e⟩
      · exact .inr h
    · exact .inl ⟨x, by simp [hx], hk⟩
/-- A call that is lent all rows of the call's own, and gives what is known whole. -/
theorem Evl_callL {c : Operand} {args : Array Operand} {tys : Array TypeId} {fs cs : Array Value} (f : FuncId) (fn : Func) (avs : List AV) (res : Value) (ho : o.op = .call { callee := .value c, args := args, argTypes := tys }) (hc : ρ c = .x (.func (.func f) fs cs))
    (hf : P.funcs[f]? = some fn) (hn : fn.name ≠ "runtime.NumGoroutine") (hb : fn.body.isSome = true) (hargs : VwL H (fs.toList.map .x ++ args.toList.map ρ ++ cs.toList.map .x) avs) (hS : Spec P f [] avs fun r H' => r = .x res ∧ H' = []) : Evl P o ρ H (.x res) := by
  intro V a w Kc Qc r hKc
  have hmem : ∀ x ∈ args.toList, x ∈ o.op.operands := fun x hx => by simp [ho, Op.operands, Call.operands]; exact .inr (by simpa using hx)
  have hFF : ∀ k, FB V [] k → V k := fun k hk => by
    rcases hk with hk | ⟨x, hx, _⟩
    · exact hk
    · cases hx
  have hd : DenL (FB V []) w avs (fs.toList ++ args.toList.map a.eval ++ cs.toList) := hargs.den (fun k hk => .inl (hFF k hk)) (fun h hh => ⟨r.hok.ok h hh, fun k e hk => (r.hok.lt h hh k e).2 (hFF k hk)⟩) _ ((DenL.exact.app (denL_ops r _ hmem)).app DenL.exact)
  refine wp_call_of ho (r.evx (by simp [ho, Op.operands, Call.operands]) hc) hf hn hb (vs := (fs.toList ++ args.toList.map a.eval ++ cs.toList).toArray) (by apply Array.toList_inj.1; simp) ?_
  refine (hS V w _ r.vlt ⟨fun x hx => (by cases hx), .nil, fun x hx => (by cases hx)⟩ hd ⟨fun k _ ⟨x, hx, _⟩ => (by cases hx), r.gw⟩).mono ?_
  rintro e w' ⟨res', H', v, ⟨rfl, rfl⟩, rfl, hdv, _, hfr, _⟩
  have hE : Ext w w' := ⟨hfr.os, hfr.tape, hfr.output, hfr.size, fun k hk => hfr.block k hk fun ⟨y, hy, _⟩ => by cases hy⟩
  exact ⟨v, rfl, hKc v w' hE (by simp only [Den] at hdv ⊢; exact hdv)⟩
theorem DenL.strip {l : List AV} {vs : List Value} (h : DenL F w l vs) : DenL F w (l.map str) vs := by
  refine DenL.of (by simp [h.len]) fun j av u h1 h2 => ?_
  rw [List.getElem?_map] at h1
  cases hj : l[j]? with
  | none => rw [hj] at h1; cases h1
  | some x =>
    rw [hj] at h1; cases h1
    exact (h.get' j x u hj h2).str
theorem Rel.strip (r : Rel V O w0 H T a w) : Rel V O w0 H (T.map str) a w := { r with tmps := r.tmps.strip }
/-- A guarded operation that may turn memory: both ways. -/
theorem awpL_gs {rest : List Oper} {j : Nat} {want : Bool} {t : Nat} (p : Bool) (hg : o.guard = some (j, want)) (hd : (ops[j]?).bind (·.dst) = some t) (hp : gdc want (T.getD t .top) = some p)
    (h1 : p = true → Stp P o (T.map str) H (awpL P ops Q rest)) (h0 : p = false → awpL P ops Q rest (putT T o.dst (.x undef)) H) : awpL P ops Q (o :: rest) T H := fun V O w0 a w r =>
  wpList_step fun K hKc => by
    rw [wanted_of r hg hd hp]
    cases hpb : p with
    | true =>
      simp only [if_true]
      exact h1 hpb V O w0 a w K _ r.strip fun T' H' a' w' hk hr => hKc _ _ (hk V O w0 a' w' hr)
    | false =>
      simp only [Bool.false_eq_true, if_false]
      exact hKc _ _ (h0 hpb V O w0 _ _ (r.put _ (by rw [Den])))
/-- A scope with one label: what lies behind the label, once. -/
theorem awp_scopeK {S : Type} {c rest : Code} (l : Nat) (Tf : S → List AV) (Hf : S → List Hp) (Inv : S → Prop) (m : S → Nat) (hf : findLabel c l = some (.seq .skip rest))
    (pass : ∀ s, Inv s → awp P rest (jumpA l (fun T' H' => ∃ s', m s' < m s ∧ Inv s' ∧ Weak H' T' (Hf s') (Tf s')) Q) (Tf s) (Hf s))
    (first : (∀ s, Inv s → awp P rest (jumpA l (fun T' H' => ∃ s', Inv s' ∧ Weak H' T' (Hf s') (Tf s')) Q) (Tf s) (Hf s)) → awp P c (jumpA l (fun T' H' => ∃ s', Inv s' ∧ Weak H' T' (Hf s') (Tf s')) Q) T H) : awp P (.scope c) Q T H :=
  awp_scopeS l Tf Hf Inv m hf (first fun s hs => awp_mono (pass s hs) fun e T H q => by
    cases e <;> simp only [jumpA] at q ⊢ <;> first
      | exact q
      | (obtain ⟨e, s', -, h1, h2⟩ := q; exact ⟨e, s', h1, h2⟩)) fun s hs => awp_seq (awp_skip (thenA_normal (pass s hs)))
end
end Go.Proofs.YtfaljkenmbbbaaaDoor
