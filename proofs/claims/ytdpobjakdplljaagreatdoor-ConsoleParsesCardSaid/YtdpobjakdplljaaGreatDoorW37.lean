import Derived.Test.YtdpobjakdplljaaGreatDoorW36
import Derived.Lib.OthersKept
import Derived.Test.YtdpobjakdplljaaGreatDoorW19
/- A walk over symbolic memory: a range over a string of ASCII. No program in sight. -/
set_option linter.unusedSimpArgs false
set_option linter.unusedVariables false
namespace Go.Proofs.YtdpobjakdplljaaGreatDoor
open Go.RowKit Go.Lib
section
variable {P : Program} {Δ Δ' : List Deferred} {V O : Nat → Prop} {w0 w w' : World} {H H' : List Hp} {T T' : List AV} {a a' : Act} {o : Oper} {ops : Array Oper}
variable {Θ : List (Nat × Obj)} {Q : Xib}
theorem XjQ {rest : List Oper} {x : Operand} {t : TypeId} {s : ByteArray} (hg : o.guard = none) (ho : o.op = .range t x) (hx : ev T x = .x (.string s)) (ht : P.underlying t = some .string)
  (hK : ∀ k, (∀ p ∈ Θ, p.1 ≠ k) → XdU P Δ ((k, .stringIter s 0) :: Θ) ops Q rest (Xb8 T o.dst (.x (.pointer (some ⟨k, 0, none⟩)))) H) : XdU P Δ Θ ops Q (o :: rest) T H := fun V O w0 a w r t' => wpListIn_plain hg fun K hKc => by
 have hrun : (execOp a.eval o).run P w = .ok (.value (.pointer (some ⟨w.heap.size, 0, none⟩))) (w.alloc (.stringIter s 0)) := by
  have hxv : a.eval x = .string s := r.evx hx
  simp [execOp, ho, hxv, Instr.range, run_underlying ht, run_newObj_alloc, Result.andThen]
 refine XhQ ?_
 unfold Oper.wp
 rw [hrun]
 have hE : Ext w (w.alloc (.stringIter s 0)) := Ext.al _ _
 have hnb : ¬ XcY H w.heap.size := fun ⟨y, hy, e⟩ => by have := (r.hok.lt y hy _ e).1; omega
 refine hKc _ _ (hK w.heap.size (fun p hp e => ?_) V O w0 _ _ ((r.quiet hE).put o.dst (v := .pointer (some ⟨w.heap.size, 0, none⟩)) (by rw [Den])) fun p hp => ?_)
 ·have := (Array.getElem?_eq_some_iff.1 (t' p hp).1).1; omega
 ·rcases List.mem_cons.1 hp with rfl | hp
  ·exact ⟨World.alloc_heap_new w _, rfl, hnb, .inr r.fr.size⟩
  ·obtain ⟨t1, t2, t3, t4⟩ := t' p hp
   exact ⟨(hE.block p.1 (Array.getElem?_eq_some_iff.1 t1).1).trans t1, t2, t3, t4⟩
theorem Xmr {rest : List Oper} {x : Operand} {k pos : Nat} {s : List UInt8} (hg : o.guard = none) (ho : o.op = .next x true) (hx : ev T x = .x (.pointer (some ⟨k, 0, none⟩))) (h : pos < s.length) (ha : (s[pos]).toNat < 128) (hne : ∀ p ∈ Θ, p.1 ≠ k)
  (hK : XdU P Δ ((k, .stringIter (bs s) (pos + 1)) :: Θ) ops Q rest (Xb8 T o.dst (.x (.tuple #[.bool true, .int .i64 pos, .int .i32 s[pos].toNat]))) H) : XdU P Δ ((k, .stringIter (bs s) pos) :: Θ) ops Q (o :: rest) T H := fun V O w0 a w r t' => wpListIn_plain hg fun K hKc => by
 obtain ⟨tk, tks⟩ := List.forall_mem_cons.1 t'
 have hxv : a.eval x = .pointer (some ⟨k, 0, none⟩) := r.evx hx
 have hsz : (bs s).size = s.length := by simp [bs, ByteArray.size]
 have hgt : (bs s)[pos]'(by omega) = s[pos] := by simp [bs, ByteArray.getElem_eq_getElem_data]
 have hn := run_next_ascii_at (P := P) w k (bs s) pos o.type tk.1 (by omega) (by rw [hgt]; exact ha)
 rw [hgt] at hn
 have hrun : (execOp a.eval o).run P w = .ok (.value (.tuple #[.bool true, .int .i64 pos, .int .i32 s[pos].toNat])) (w.iterAt k (bs s) (pos + 1)) := by
  simp [execOp, ho, hxv, hn, Result.andThen]
 refine XhQ ?_
 unfold Oper.wp
 rw [hrun]
 have r2 : Rel Δ V O w0 H T a (w.iterAt k (bs s) (pos + 1)) := r.putObj (.stringIter (bs s) (pos + 1)) tk.1 rfl tk.2.2.1 tk.2.2.2
 refine hKc _ _ (hK V O w0 _ _ (r2.put o.dst (v := .tuple #[.bool true, .int .i64 pos, .int .i32 s[pos].toNat]) (by rw [Den])) fun p hp => ?_)
 rcases List.mem_cons.1 hp with rfl | hp
 ·exact ⟨World.putObj_heap_same (Array.getElem?_eq_some_iff.1 tk.1).1, rfl, tk.2.2⟩
 ·exact ⟨(World.putObj_heap_other (hne p hp)).trans (tks p hp).1, (tks p hp).2⟩
theorem XmD {rest : List Oper} {x : Operand} {k pos : Nat} {s : List UInt8} (hg : o.guard = none) (ho : o.op = .next x true) (hx : ev T x = .x (.pointer (some ⟨k, 0, none⟩))) (h : ¬ pos < s.length)
  (hK : XdU P Δ ((k, .stringIter (bs s) pos) :: Θ) ops Q rest (Xb8 T o.dst (.x (.tuple #[.bool false]))) H) : XdU P Δ ((k, .stringIter (bs s) pos) :: Θ) ops Q (o :: rest) T H := fun V O w0 a w r t' => wpListIn_plain hg fun K hKc => by
 have tk := t' _ (List.mem_cons_self ..)
 have hxv : a.eval x = .pointer (some ⟨k, 0, none⟩) := r.evx hx
 have hsz : (bs s).size = s.length := by simp [bs, ByteArray.size]
 have hn := run_next_end_at (P := P) w k (bs s) pos o.type tk.1 (by omega)
 have hrun : (execOp a.eval o).run P w = .ok (.value (.tuple #[.bool false])) w := by
  simp [execOp, ho, hxv, hn, Result.andThen]
 refine XhQ ?_
 unfold Oper.wp
 rw [hrun]
 exact hKc _ _ (hK V O w0 _ _ (r.put o.dst (v := .tuple #[.bool false]) (by rw [Den])) t')
section
variable {x y z u v c' : Code}
theorem XnH (h : awp P x (XaP (awp P y (XaP (XfO P Δ Θ z Q) (Q Δ Θ))) (Q Δ Θ)) T H) : XfO P Δ Θ (.seq x (.seq y z)) Q T H := XbO (XfM h fun e T H q => by
 cases e with
 | normal => exact XbO q
 | _ => exact q)
theorem XoC (h : awp P x (XaP (awp P y (XaP (awp P u (XaP (XfO P Δ Θ z Q) (Q Δ Θ))) (Q Δ Θ))) (Q Δ Θ)) T H) : XfO P Δ Θ (.seq x (.seq y (.seq u z))) Q T H := XbO (XfM h fun e T H q => by
 cases e with
 | normal => exact XnH q
 | _ => exact q)
theorem Xne (h : awp P x (XaP (awp P y (XaP (awp P u (XaP (awp P v (XaP (XfO P Δ Θ z Q) (Q Δ Θ))) (Q Δ Θ))) (Q Δ Θ))) (Q Δ Θ)) T H) : XfO P Δ Θ (.seq x (.seq y (.seq u (.seq v z)))) Q T H := XbO (XfM h fun e T H q => by
 cases e with
 | normal => exact XoC q
 | _ => exact q)
theorem Xns (h : awp P x (XaP (awp P y (XaP (awp P u (XaP (awp P v (XaP (awp P c' (XaP (XfO P Δ Θ z Q) (Q Δ Θ))) (Q Δ Θ))) (Q Δ Θ))) (Q Δ Θ))) (Q Δ Θ)) T H) : XfO P Δ Θ (.seq x (.seq y (.seq u (.seq v (.seq c' z))))) Q T H := XbO (XfM h fun e T H q => by
 cases e with
 | normal => exact Xne q
 | _ => exact q)
end
end
open Go.RowKit
def Xmw (k : Nat) : List UInt8 × Int × List UInt8 := Xn5.getD k ([], 0, [])
theorem XuC (k : Nat) (h : k < 14) : XbJ.toArray.extract (k * 3) (k * 3 + 3) = #[.string (bs (Xmw k).1), .int .i64 (Xmw k).2.1, .string (bs (Xmw k).2.2)] := by
 match k, h with
 | 0, _ => rfl
 | 1, _ => rfl
 | 2, _ => rfl
 | 3, _ => rfl
 | 4, _ => rfl
 | 5, _ => rfl
 | 6, _ => rfl
 | 7, _ => rfl
 | 8, _ => rfl
 | 9, _ => rfl
 | 10, _ => rfl
 | 11, _ => rfl
 | 12, _ => rfl
 | 13, _ => rfl
theorem Xuu (k : Nat) (h : k < 14) : ∃ i, i < 14 ∧ (Xmw k).2.1 = (i + 1 : Nat) ∧ XbF.getD i [] = (Xmw k).1 ∧ Xa5.getD i [] = (Xmw k).2.2.map (fun c => XbY c.toNat) ∧ ∀ c ∈ (Xmw k).2.2, c.toNat < 128 ∧ ((c.toNat : Int) = 106 ∨ (c.toNat : Int) = 119 ∨ (c.toNat : Int) = 100 ∨ (c.toNat : Int) = 97 ∨ (c.toNat : Int) = 99 ∨ (c.toNat : Int) = 108 ∨ (c.toNat : Int) = 110) := by
 match k, h with
 | 0, _ => exact ⟨0, by decide⟩
 | 1, _ => exact ⟨1, by decide⟩
 | 2, _ => exact ⟨2, by decide⟩
 | 3, _ => exact ⟨3, by decide⟩
 | 4, _ => exact ⟨4, by decide⟩
 | 5, _ => exact ⟨5, by decide⟩
 | 6, _ => exact ⟨6, by decide⟩
 | 7, _ => exact ⟨7, by decide⟩
 | 8, _ => exact ⟨8, by decide⟩
 | 9, _ => exact ⟨9, by decide⟩
 | 10, _ => exact ⟨10, by decide⟩
 | 11, _ => exact ⟨12, by decide⟩
 | 12, _ => exact ⟨11, by decide⟩
 | 13, _ => exact ⟨13, by decide⟩
theorem Xrt (i : Nat) (h : i < 14) : ∃ k, k < 14 ∧ (Xmw k).1 = XbF.getD i [] := by
 match i, h with
 | 0, _ => exact ⟨0, by decide⟩
 | 1, _ => exact ⟨1, by decide⟩
 | 2, _ => exact ⟨2, by decide⟩
 | 3, _ => exact ⟨3, by decide⟩
 | 4, _ => exact ⟨4, by decide⟩
 | 5, _ => exact ⟨5, by decide⟩
 | 6, _ => exact ⟨6, by decide⟩
 | 7, _ => exact ⟨7, by decide⟩
 | 8, _ => exact ⟨8, by decide⟩
 | 9, _ => exact ⟨9, by decide⟩
 | 10, _ => exact ⟨10, by decide⟩
 | 11, _ => exact ⟨12, by decide⟩
 | 12, _ => exact ⟨11, by decide⟩
 | 13, _ => exact ⟨13, by decide⟩
section
variable {o : Oper} {ρ : Operand → AV} {H : List Hp}
theorem Xg3 (ho : o.op = .load 129 (.global 0)) : Evl Tryz.prog o ρ H (.x (.agg XbJ.toArray)) := by
 intro V a w Kc Q ok hK
 have hf := ok.gw.forms
 have hg : Tryz.prog.globalNamed "jobmux/console.forms" = some 0 := by kernel_rfl
 simp only [World.var?, hg, Option.bind_some] at hf
 have hcell : ∀ j u, XbJ[j]? = some u → w.cell? ⟨0, 0 + j, none⟩ = some u := by
  intro j u hj
  rw [Nat.zero_add]
  unfold World.cell?
  cases hb : w.heap[0]? with
  | none => rw [hb] at hf; cases hf
  | some ob =>
   rw [hb] at hf
   cases ob <;> first | (cases hf; done) | skip | fail
   rename_i cs e fr
   simp only [Option.some.injEq] at hf
   subst hf
   simpa using hj
 obtain ⟨v, hr, hdv⟩ := XbW (P := Tryz.prog) 129 true 42 (by kernel_rfl) w (fun _ => False) 0 0 (XbJ.map .x) XbJ Xa2.exact hcell (by decide) (fun h => by cases h)
 have hv : v = .agg XbJ.toArray := by
  have e : ldA true 42 (XbJ.map .x) = .x (.agg XbJ.toArray) := by rfl
  rw [e, Den] at hdv
  exact hdv
 subst hv
 exact Xek ho rfl hr (hK _ _ (Below.refl _ _) (by rw [Den]))
theorem XeT {x y : Operand} {i : Int} {k : Nat} (ho : o.op = .index 129 x y) (hx : ρ x = .x (.agg XbJ.toArray)) (hy : ρ y = .x (.int .i64 i)) {wd fs : List UInt8} {kd : Int} (hf : Xmw k = (wd, kd, fs)) (hi : i = (k : Int)) (h : k < 14) : Evl Tryz.prog o ρ H (.x (.agg #[.string (bs wd), .int .i64 kd, .string (bs fs)])) := by
 subst hi
 intro V a w Kc Q ok hK
 have hu : Tryz.prog.underlying 129 = some (.array 14 76) := by kernel_rfl
 obtain ⟨i1, i2⟩ := Xd1 (P := Tryz.prog) 76 true 3 (by kernel_rfl) w
 have hrun : (Instr.index 129 (.agg XbJ.toArray) (.int .i64 (k : Int))).run Tryz.prog w = .ok (.agg #[.string (bs wd), .int .i64 kd, .string (bs fs)]) w := by
  have hb : (k : Int) < ((14 : Nat) : Int) := by omega
  have he := XuC k h
  rw [hf] at he
  simp only [Instr.index, asIntOf, Sem.run_bind, Sem.run_pure, Result.andThen_ok, run_underlying hu, hb, Int.natCast_nonneg, true_and, if_true, i2, Int.toNat_natCast]
  have he' : List.take 3 (List.drop (k * 3) XbJ) = [Value.string (bs wd), Value.int IntKind.i64 kd, Value.string (bs fs)] := by
   have := congrArg Array.toList he
   simpa [Array.toList_extract, List.extract_eq_take_drop] using this
  simp [Go.part, i1, i2, he']
 unfold Oper.wp execOp
 simp only [ho, ok.evx (by simp [ho, Op.operands]) hx, ok.evx (by simp [ho, Op.operands]) hy, hrun, Sem.run_bind, Sem.run_pure, Result.andThen_ok, Oper.upon]
 exact hK _ _ (Below.refl _ _) (by rw [Den])
end
set_option maxRecDepth 100000 in
set_option maxHeartbeats 8000000 in
theorem Xql (bt : Nat) (wd fs : List UInt8) (kd : Int) (l : List Tok) (h1 : 1 ≤ l.length) : Xa8 Tryz.prog 52 [.box bt [.sq l.length (ta l)]] [.x (.agg #[.string (bs wd), .int .i64 kd, .string (bs fs)]), .x (.pointer (some ⟨bt, 0, none⟩))] (fun r H' => r = .x (.bool (wd == l[0].text)) ∧ H' = [.box bt [.sq l.length (ta l)]]) := by
 have h0 := XiH l 0 (by omega)
 refine XaG Tryz.func52 rfl ?_
 simp only [Tryz.ntmps52, Xu2, Xu5, Xu6, Xu7, Xva, Xu9, Nat.reduceAdd, Nat.reduceSub]
 (repeat' (first | with_reducible (first | refine Xah ?_ | refine Xac ?_ | refine Xat ?_ | refine Xae ?_ | refine Xb3 ?_ | refine Xaa ?_) | (with_reducible refine Xbc Xbd ?_ ?_; (decide +kernel)) | ((first | apply Xad rfl | apply XbH rfl); (case h => ((first | (apply Xab 0 rfl; (exact Xao _ rfl)) | (apply Xab 5 rfl; (first | exact Xal _ _ _ _ _ _ rfl rfl Xa6.out | exact Xbe _ _ _ _ _ rfl rfl Xa6.out)) | (apply Xab 6 rfl; (first | exact XaD _ _ _ _ _ rfl rfl XaO.out (by first | exact XuY rfl | fail) (by first | exact XuY rfl | fail) | exact XaA _ _ _ _ _ _ _ _ rfl rfl XaZ.out XaO.out (by first | exact XuY rfl | fail) (by first | exact XuY rfl | fail))) | (apply Xab 7 rfl; (exact XaC _ _ _ _ _ _ _ _ _ _ rfl rfl rfl HEl.out rfl (by first | assumption | fail) (by simp; first | omega | fail))) | (apply XaF; (case hs => (intro _ _ h; cases h)); (case hx => rfl); (case hrun => (intro w; simp [wtb, AV.val, go_sem]; skip; rfl)))))); (case hT => ((try simp (disch := omega) only [wtn, h0, Xu3, Xu0, Xu1, Xu4, Xu8, Nat.reduceAdd, Nat.reduceMul, Nat.reduceSub, ↓reduceIte, Nat.reduceEqDiff]); rfl))) | (refine Xaj rfl ?_; (((refine Xaq 15 rfl ?_; ((refine Xbt _ _ rfl (by first | rfl | fail) (fun b => ?_))))); apply Xak; (case hT => ((try simp (disch := omega) only [wtn, h0, Xu3, Xu0, Xu1, Xu4, Xu8, Nat.reduceAdd, Nat.reduceMul, Nat.reduceSub, ↓reduceIte, Nat.reduceEqDiff]); rfl)); (case hH => ((try simp (disch := omega) only [wtn, h0, Xu3, Xu0, Xu1, Xu4, Xu8, Nat.reduceAdd, Nat.reduceMul, Nat.reduceSub, ↓reduceIte, Nat.reduceEqDiff]); rfl)))) | fail))
 refine Xaf _ _ (Xbl rfl (RV.tmp _) (XaK.mk' [_] [_] (XuZ _) (XaE.refl _ _) (VwL.refl _ _))) ?_
 exact ⟨rfl, rfl⟩
def XqX : AV := .tup [.x (.agg #[.string (bs []), .int .i64 0, .string (bs [])]), .x (.bool false)]
set_option maxRecDepth 100000 in
set_option maxHeartbeats 8000000 in
theorem Xtf (bt : Nat) (l : List Tok) (h1 : 1 ≤ l.length) : Xa8 Tryz.prog 31 [.box bt [.sq l.length (ta l)]] [.x (.func (.func 52) #[] #[.pointer (some ⟨bt, 0, none⟩)])] (fun r H' => H' = [.box bt [.sq l.length (ta l)]] ∧ ((∃ (k : Nat) (wd : List UInt8) (kd : Int) (fs : List UInt8), k < 14 ∧ Xmw k = (wd, kd, fs) ∧ wd = l[0].text ∧ r = .tup [.x (.agg #[.string (bs wd), .int .i64 kd, .string (bs fs)]), .x (.bool true)]) ∨ ((∀ k, k < 14 → (Xmw k).1 ≠ l[0].text) ∧ r = XqX))) := by
 refine XaG Tryz.func31 rfl ?_
 simp only [Tryz.ntmps31, Xu2, Xu5, Xu6, Xu7, Xva, Xu9, Nat.reduceAdd, Nat.reduceSub]
 (repeat' (first | with_reducible (first | refine Xah ?_ | refine Xac ?_ | refine Xan ?_ | refine Xae ?_ | refine Xaa ?_) | ((apply Xad rfl); (case h => ((first | (apply Xab 0 rfl; (first | exact Xar _ rfl | exact Xao _ rfl)) | (apply Xab 6 rfl; (exact Xg3 rfl))))); (case hT => ((try simp only [wtn]); rfl))) | (refine Xaj rfl ?_; (((refine Xaq 14 rfl ?_; ((refine XaN _ _ rfl Xbp.out rfl (fun b => ?_))))); apply Xak; (case hT => ((try simp only [wtn]); rfl)); (case hH => ((try simp only [wtn]); rfl)))) | fail))
 revert b
 intro br
 apply XaT (S := Nat) (fun k => frm 16 [(0, .x (.func (.func 52) #[] #[.pointer (some ⟨bt, 0, none⟩)])), (2, .x (.pointer (some ⟨br, 0, none⟩))), (3, .x (.bool false)), (6, .x (.agg XbJ.toArray)), (7, .x (.int .i64 k))]) (fun _ => [.box br [.x (.string (bs [])), .x (.int .i64 0), .x (.string (bs []))], .box bt [.sq l.length (ta l)]])
  (fun k => k ≤ 14 ∧ ∀ i, i < k → (Xmw i).1 ≠ l[0].text) (fun k => 14 - k) 0
 case h0 => exact (XaK.mk' [] _ (XuZ _) (XaE.refl _ _) (by (repeat' (first | exact VwL.nil | (refine VwL.cons ?_ ?_) | exact Vw.refl _ | fail))))
 case hi => exact ⟨Nat.zero_le _, fun i hi => by omega⟩
 rintro k ⟨k1, hw⟩
 have hw' := Lib.hid hw
 clear hw
 simp only [frm, Xu6, Xu7, Xu0, Xu1, Xvd, Xve]
 by_cases hk : k < 14
 ·obtain ⟨⟨wd, kd, fs⟩, hfk⟩ : ∃ f, Xmw k = f := ⟨_, rfl⟩
  have he := Xql bt wd fs kd l h1
  have hfk' := Lib.hid hfk
  clear hfk
  (repeat' (first | with_reducible (first | refine Xah ?_ | refine Xac ?_ | refine Xan ?_ | refine Xat ?_ | refine Xax ?_ | refine Xae ?_ | refine Xaa ?_ | refine Xaw ?_ | refine Xag ?_ | refine Xav ?_) | (refine Xai _ rfl (fun h => ?_) (fun h => ?_) <;> ((try (simp only [whn] at h)); first | (exfalso; omega; done) | skip)) | ((apply Xad rfl); (case h => ((first | (apply Xab 0 rfl; (first | exact Xar _ rfl | exact Xao _ rfl)) | (apply Xab 6 rfl; (exact XaA _ _ _ _ _ _ _ _ rfl rfl XaZ.out XaO.out (by first | exact XuY rfl | fail) (by first | exact XuY rfl | fail))) | (apply Xab 8 rfl; (exact XeT rfl rfl rfl hfk'.out rfl hk)) | (apply XaF; (case hs => (intro _ _ h; cases h)); (case hx => rfl); (case hrun => (intro w; simp [wtb, AV.val, go_sem]; (try go_bits); rfl)))))); (case hT => ((try simp only [wtn, ↓reduceIte]); rfl))) | (refine Xaj rfl ?_; ((first | (refine Xaq 11 rfl ?_; ((refine Xam 52 Tryz.f52 [_] _ _ _ rfl rfl Tryz.func52 (by decide) rfl (Xvc (l₁ := [_, _])) (VwL.refl _ _) (he) ?_; rintro _ _ ⟨rfl, rfl⟩))) | (refine Xaq 14 rfl ?_; ((refine XaN _ _ rfl Xbp.out rfl (fun b => ?_)))) | (refine Xaq 16 rfl ?_; ((refine Xau _ _ _ _ _ _ _ rfl rfl XaZ.out XaR.out (by first | rfl | fail) (by first | exact XuY rfl | fail) ?_)))); apply Xak; (case hT => ((try simp only [wtn]); rfl)); (case hH => ((try simp only [wtn, Xu3, Nat.reduceAdd]); rfl)))) | fail))
  ·refine Xaf _ _ (Xc2 rfl (RV.cell 2 rfl rfl XaO.out (by simp) (by simp)) (RV.tmp _) (XaK.mk' [.box b _, .box br _] [.box bt _] (by (repeat' (first | exact XuZ _ | refine (Xvc (l₁ := [_])).trans (Xvf _ ?_) | fail))) (XaE.refl _ _) (VwL.refl _ _))) ?_
   exact ⟨rfl, .inl ⟨k, wd, kd, fs, hk, hfk'.out, h, rfl⟩⟩
  ·have hne : ¬ wd = l[0].text := h
   refine ⟨k + 1, by omega, ⟨by omega, fun i hi => ?_⟩, XaK.mk' [.box b _] [.box br _, .box bt _] (by (repeat' (first | exact XuZ _ | refine (Xvc (l₁ := [_])).trans (Xvf _ ?_) | fail))) (XaE.refl _ _) (by (repeat' (first | exact VwL.nil | (refine VwL.cons ?_ ?_) | exact Vw.refl _ | exact Vw.top _ | fail)))⟩
   rcases Nat.lt_or_ge i k with h5 | h5
   ·exact hw'.out i h5
   ·obtain rfl : i = k := by omega
    rw [hfk'.out]; exact hne
 ·obtain rfl : k = 14 := by omega
  (repeat' (first | with_reducible (first | refine Xah ?_ | refine Xac ?_ | refine Xat ?_ | refine XaW ?_ | refine Xae ?_ | refine Xaa ?_ | refine XaM ?_ | refine XaI ?_) | (refine Xai _ rfl (fun h => ?_) (fun h => ?_) <;> first | (exact absurd h (by decide)) | ((try (simp only [] at h)); skip)) | ((apply Xad rfl); (case h => ((first | (apply Xab 0 rfl; (exact Xao _ rfl)) | (apply Xab 10 rfl; (exact XaU _ _ _ _ _ rfl HPl.out (by first | rfl | fail) rfl)) | (apply XaF; (case hs => (intro _ _ h; cases h)); (case hx => rfl); (case hrun => (intro w; simp [wtb, AV.val, go_sem]; skip; rfl)))))); (case hT => ((try simp only [wtn, ↓reduceIte]); rfl))) | (refine Xaj rfl ?_; (((refine Xaq 16 rfl ?_; ((refine Xau _ _ _ _ _ _ _ rfl rfl XaZ.out XaR.out (by first | rfl | fail) (by first | exact XuY rfl | fail) ?_)))); apply Xak; (case hT => ((try simp only [wtn]); rfl)); (case hH => ((try simp only [wtn, Nat.reduceAdd]); rfl)))) | fail))
  refine Xaf _ _ (Xc2 rfl (RV.cell 0 rfl rfl XaO.out (by simp) (by simp)) (RV.tmp _) (XaK.mk' [_] [_] (XuZ _) (XaE.refl _ _) (VwL.refl _ _))) ?_
  exact ⟨rfl, .inr ⟨hw'.out, rfl⟩⟩
theorem XuI (be : Nat) (e : EF) (a : Int) (t : Tok) (hlen : t.text.length ≤ 70000) (hN : Xpa t) (hT : t.kind = 2 → 1 ≤ t.text.length) (ha : a = 106 ∨ a = 119 ∨ a = 100 ∨ a = 97 ∨ a = 99 ∨ a = 108 ∨ a = 110) : Xa8 Tryz.prog 53 [.box be e.cells] [.x (.pointer (some ⟨be, 0, none⟩)), .x (.int .i32 a), t.av] (fun r H' => ∃ e' : EF, r = .x (.bool (XbL (XbY a) t)) ∧ H' = [.box be e'.cells] ∧ (XbL (XbY a) t = true → e' = XgO e (XbY a) t)) := by
 by_cases hk : t.kind = 2
 ·exact Xt2 be e a t hlen hN (hT hk) hk ha
 ·exact Xta be e a t hlen hk ha
set_option maxRecDepth 100000 in
set_option maxHeartbeats 8000000 in
theorem XpJ (l : List Tok) (h1 : 1 ≤ l.length) (hl : l.length ≤ 3000) (hN : ∀ t ∈ l, Xpa t) (hT : ∀ t ∈ l, t.kind = 2 → 1 ≤ t.text.length) (hlen : ∀ t ∈ l, t.text.length ≤ 70000) : Xa8 Tryz.prog 25 [] [.sq l.length (ta l)] (fun r H' => r = XmH (Xcd l) ∧ H' = []) := by
 have hN' := Lib.hid hN
 have hT' := Lib.hid hT
 have hlen' := Lib.hid hlen
 clear hN hT hlen
 have h0 := XiH l 0 (by omega)
 refine XkX Tryz.func25 rfl ?_
 simp only [Tryz.ntmps25, Xu2, Xu5, Xu6, Xu7, Xva, Xu9, Nat.reduceAdd, Nat.reduceSub]
 have hf := fun bt => Xtf bt l h1
 refine Xns ?_
 (repeat' (first | with_reducible (first | refine Xah ?_ | refine Xac ?_ | refine Xat ?_ | refine Xax ?_ | refine Xae ?_ | refine Xaa ?_ | refine Xaw ?_) | (refine Xai _ rfl (fun h => ?_) (fun h => ?_) <;> ((try (simp only [whn] at h)); skip)) | ((apply Xad rfl); (case h => ((first | (apply Xab 0 rfl; (first | exact Xar _ rfl | exact Xao _ rfl)) | (apply Xab 5 rfl; (exact Xbe _ _ _ _ _ rfl rfl Xa6.out)) | (apply Xab 6 rfl; (first | exact XaD _ _ _ _ _ rfl rfl XaO.out (by first | exact XuY rfl | fail) (by first | exact XuY rfl | fail) | exact XaA _ _ _ _ _ _ _ _ rfl rfl XaZ.out XaO.out (by first | exact XuY rfl | fail) (by first | exact XuY rfl | fail))) | (apply Xab 7 rfl; (exact XaC _ _ _ _ _ _ _ _ _ _ rfl rfl rfl HEl.out rfl (by first | assumption | fail) (by simp; first | omega | fail))) | (apply Xab 10 rfl; (exact XaU _ _ _ _ _ rfl HPl.out (by first | rfl | fail) rfl)) | (apply XaF; (case hs => (intro _ _ h; cases h)); (case hx => rfl); (case hrun => (intro w; simp [wtb, AV.val, go_sem]; skip; rfl)))))); (case hT => ((try simp (disch := omega) only [wtn, h0, Xu3, Xu0, Xu1, Xu4, Xu8, Nat.reduceAdd, Nat.reduceMul, Nat.reduceSub, ↓reduceIte, Nat.reduceEqDiff]); rfl))) | (refine Xaj rfl ?_; ((first | (refine Xaq 11 rfl ?_; ((refine Xam 31 Tryz.f31 [_] _ _ _ rfl rfl Tryz.func31 (by decide) rfl (Xvc (l₁ := [_])) (VwL.refl _ _) (hf _) ?_; rintro _ _ ⟨rfl, hres⟩))) | (refine Xaq 14 rfl ?_; ((refine XaN _ _ rfl Xbp.out rfl (fun b => ?_)))) | (refine Xaq 15 rfl ?_; ((refine Xbt _ _ rfl (by first | rfl | fail) (fun b => ?_)))) | (refine Xaq 16 rfl ?_; ((refine Xau _ _ _ _ _ _ _ rfl rfl XaZ.out XaR.out (by first | rfl | fail) (by first | exact XuY rfl | fail) ?_)))); apply Xak; (case hT => ((try simp (disch := omega) only [wtn, h0, Xu3, Xu0, Xu1, Xu4, Xu8, Nat.reduceAdd, Nat.reduceMul, Nat.reduceSub, ↓reduceIte, Nat.reduceEqDiff]); rfl)); (case hH => ((try simp (disch := omega) only [wtn, h0, Xu3, Xu0, Xu1, Xu4, Xu8, Nat.reduceAdd, Nat.reduceMul, Nat.reduceSub, ↓reduceIte, Nat.reduceEqDiff]); rfl)))) | fail))
 ·refine Xdr (Xaf _ _ (Xc2 rfl (RV.cell 0 rfl rfl XaO.out (by simp) (by simp)) (RV.tmp _) (XaK.mk' [_, _] [] (XuZ _) XaE.nil (VwL.refl _ _))) ?_)
  refine ⟨?_, rfl⟩
  rw [Xgs h1 (fun q => absurd q h)]
  rfl
 rcases hres with ⟨k, wd, kd, fs, hk, hfk, hwd, rfl⟩ | ⟨hno, rfl⟩
 ·obtain ⟨i, hi14, hkd, hcw, hcf, hlet⟩ := Xuu k hk
  rw [hfk] at hkd hcw hcf hlet
  simp only at hkd hcw hcf hlet
  subst hkd
  have hat := Xea h1 (by assumption) hi14 (by rw [hcw]; exact hwd)
  rw [hcf, List.length_map] at hat
  have hat' := Lib.hid hat
  have hlet' := Lib.hid hlet
  clear hat hlet hfk hcw hcf
  (repeat' (first | with_reducible (first | refine Xah ?_ | refine Xac ?_ | refine Xat ?_ | refine Xax ?_ | refine Xae ?_ | refine Xaa ?_ | refine Xaw ?_) | (refine Xai _ rfl (fun h => ?_) (fun h => ?_) <;> ((try (simp only [whn] at h)); skip)) | ((first | apply Xad rfl | apply Xa7 _ _ rfl rfl rfl); (case h => ((try (intro (hp : (_ : Bool) = true); ((try simp only [Bool.not_eq_true'] at hp); skip; skip))); (first | (apply Xab 0 rfl; (first | exact Xar _ rfl | exact Xao _ rfl)) | (apply Xab 1 rfl; (exact XbE _ _ _ rfl rfl)) | (apply Xab 2 rfl; (exact XaL _ _ _ _ rfl rfl rfl)) | (apply Xab 3 rfl; (exact XaX _ _ _ _ _ _ HEl.out rfl rfl)) | (apply Xab 5 rfl; (exact Xal _ _ _ _ _ _ rfl rfl Xa6.out)) | (apply Xab 6 rfl; (exact XaA _ _ _ _ _ _ _ _ rfl rfl XaZ.out XaO.out (by first | exact XuY rfl | fail) (by first | exact XuY rfl | fail))) | (apply Xab 10 rfl; (exact XaU _ _ _ _ _ rfl HPl.out (by first | rfl | fail) rfl)) | (apply XaF; (case hs => (intro _ _ h; cases h)); (case hx => rfl); (case hrun => (intro w; simp [wtb, AV.val, go_sem]; (try go_bits); rfl)))))); (case hT => ((try simp only [wtn, ↓reduceIte]); rfl))) | (refine Xaj rfl ?_; ((first | (refine Xaq 14 rfl ?_; ((refine XaN _ _ rfl Xbp.out rfl (fun b => ?_)))) | (refine Xaq 16 rfl ?_; ((refine Xau _ _ _ _ _ _ _ rfl rfl XaZ.out XaR.out (by first | rfl | fail) (by first | exact XuY rfl | fail) ?_)))); apply Xak; (case hT => ((try simp only [wtn]); rfl)); (case hH => ((try simp only [wtn, Nat.reduceAdd]); rfl)))) | fail))
  ·refine Xdr (Xaf _ _ (Xc2 rfl (RV.cell 2 rfl rfl XaO.out (by simp) (by simp)) (RV.tmp _) (XaK.mk' [_, _, _] [] (XuZ _) XaE.nil (VwL.refl _ _))) ?_)
   refine ⟨?_, rfl⟩
   rw [hat'.out, if_pos (by omega)]
   rfl
  have hlf : l.length = fs.length + 1 := by omega
  rename_i bt br hk1 bf
  refine XcX (XcX (XdH ?_))
  (repeat' (first | (apply Xdy rfl; (case h => (first | (apply Xab 5 rfl; (exact Xal _ _ _ _ _ _ rfl rfl Xa6.out)) | (apply Xab 6 rfl; (exact XaA _ _ _ _ _ _ _ _ rfl rfl XaZ.out XaO.out (by first | exact XuY rfl | fail) (by first | exact XuY rfl | fail))))); (case hT => ((try simp only [wtn]); rfl))) | fail))
  refine XjQ rfl rfl rfl (by kernel_rfl) fun kk _ => ?_
  refine XdY ?_
  refine Xaa ?_
  refine Xer ?_
  apply Xhn (S := Nat × EF) (fun q => frm 52 [(1, .x (.pointer (some ⟨bt, 0, none⟩))), (2, .x (.pointer (some ⟨br, 0, none⟩))), (3, .x (.bool false)), (6, .x (.pointer (some ⟨b, 0, none⟩))), (37, .x (.pointer (some ⟨kk, 0, none⟩)))])
   (fun q => [.box b q.2.cells, .box bt [.sq l.length (ta l)], .box br [.x (.int .i64 0), .x (.string (bs [])), .x (.bool false), .x (.int .i64 0), .x (.slice none 0 0), .x (.int .u64 0), .x (.int .i64 0), .x (.int .i64 0)]]) (fun q => [(kk, .stringIter (bs fs) q.1)])
   (fun q => q.1 ≤ fs.length ∧ Xcd l = XdM q.2 ((fs.map fun c => XbY c.toNat).drop q.1) ((l.drop 1).drop q.1)) (fun q => fs.length - q.1) (0, ev0 (i + 1 : Nat))
  case h0 => exact XaK.mk' [.box bf _] [.box b _, .box bt _, .box br _] (by (repeat' (first | exact XuZ _ | refine (Xvc (l₁ := [_])).trans (Xvf _ ?_) | fail))) (XaE.cons (VwH.box _ (VwL.cons (Vw.refl _) (VwL.cons (Vw.refl _) (VwL.cons (Vw.refl _) (VwL.cons (Vw.refl _) (VwL.cons Vw.nil (VwL.refl _ _))))))) (XaE.cons (VwH.refl _ _) (XaE.cons (VwH.refl _ _) XaE.nil))) (by (repeat' (first | exact VwL.nil | (refine VwL.cons ?_ ?_) | exact Vw.refl _ | exact Vw.top _ | fail)))
  case hΘ => rfl
  case hi =>
   refine ⟨Nat.zero_le _, ?_⟩
   rw [hat'.out, if_neg (by omega), List.drop_zero, List.drop_zero]
  rintro ⟨j, ev⟩ ⟨g1, g2⟩
  simp only at g1 g2
  have g2' := Lib.hid g2
  clear g2
  simp only [frm, Xu6, Xu7, Xu0, Xu1, Xvd, Xve]
  by_cases hj : j < fs.length
  ·obtain ⟨q128, qlet⟩ := hlet'.out fs[j] (List.getElem_mem _)
   have hd := XiH l (j + 1) (by omega)
   have hS := fun be => XuI be ev (fs[j].toNat : Nat) l[j + 1] (hlen'.out _ (List.getElem_mem _)) (hN'.out _ (List.getElem_mem _)) (hT'.out _ (List.getElem_mem _)) qlet
   have hst := XfE ev (fs.map fun c => XbY c.toNat) (l.drop 1) j (by simpa using hj) (by simp; omega)
   rw [List.getElem_map, Xit, show (l.drop 1)[j]'(by simp; omega) = l[j + 1] from by simp [Nat.add_comm]] at hst
   have hst' := Lib.hid hst
   clear hst
   unfold Tok.av at hS
   refine XcX (XdH ?_)
   refine Xmr rfl rfl rfl hj q128 (fun p hp => by cases hp) ?_
   (repeat' (first | (apply Xdy rfl; (case h => ((apply XaF; (case hs => (intro _ _ h; cases h)); (case hx => rfl); (case hrun => (intro w; simp [wtb, AV.val, go_sem]; skip; rfl))))); (case hT => ((try simp only [wtn]); rfl))) | fail))
   refine XdY ?_
   refine Xaa ?_
   refine XdJ ?_
   (repeat' (first | with_reducible (first | refine Xah ?_ | refine Xac ?_ | refine Xan ?_ | refine Xat ?_ | refine Xax ?_ | refine Xae ?_ | refine Xaa ?_ | refine Xaw ?_ | refine Xag ?_ | refine Xav ?_) | (refine Xai _ rfl (fun h => ?_) (fun h => ?_) <;> first | (exact absurd h (by decide)) | ((try (simp only [whn] at h)); skip)) | ((apply Xad rfl); (case h => ((first | (apply Xab 0 rfl; (first | exact Xar _ rfl | exact Xao _ rfl)) | (apply Xab 6 rfl; (first | exact XaD _ _ _ _ _ rfl rfl XaO.out (by first | exact XuY rfl | fail) (by first | exact XuY rfl | fail) | exact XaA _ _ _ _ _ _ _ _ rfl rfl XaZ.out XaO.out (by first | exact XuY rfl | fail) (by first | exact XuY rfl | fail))) | (apply Xab 7 rfl; (exact XaC _ _ _ _ _ _ _ _ _ _ rfl rfl rfl HEl.out rfl (by first | omega | fail) (by simp; first | omega | fail))) | (apply Xab 10 rfl; (exact XaU _ _ _ _ _ rfl HPl.out (by first | rfl | fail) rfl)) | (apply XaF; (case hs => (intro _ _ h; cases h)); (case hx => rfl); (case hrun => (intro w; simp [wtb, AV.val, go_sem]; (try go_bits); rfl)))))); (case hT => ((try simp (disch := omega) only [wtn, hd, Xb2, Xu3, Xu0, Xu1, Xu4, Xu8, Nat.reduceAdd, Nat.reduceMul, Nat.reduceSub, ↓reduceIte, Nat.reduceEqDiff]); rfl))) | (refine Xaj rfl ?_; ((first | (refine Xaq 11 rfl ?_; ((refine Xam 53 Tryz.f53 [_] _ _ _ rfl rfl Tryz.func53 (by decide) rfl (XuZ _) (VwL.refl _ _) (hS _) ?_; rintro _ _ ⟨e', rfl, rfl, he'⟩))) | (refine Xaq 16 rfl ?_; ((refine Xau _ _ _ _ _ _ _ rfl rfl XaZ.out XaR.out (by first | rfl | fail) (by first | exact XuY rfl | fail) ?_)))); apply Xak; (case hT => ((try simp (disch := omega) only [wtn, hd, Xb2, Xu3, Xu0, Xu1, Xu4, Xu8, Nat.reduceAdd, Nat.reduceMul, Nat.reduceSub, ↓reduceIte, Nat.reduceEqDiff]); rfl)); (case hH => ((try simp (disch := omega) only [wtn, hd, Xb2, Xu3, Xu0, Xu1, Xu4, Xu8, Nat.reduceAdd, Nat.reduceMul, Nat.reduceSub, ↓reduceIte, Nat.reduceEqDiff]); rfl)))) | fail))
   ·first
     | refine Xdr (Xaf _ _ (Xc2 rfl (RV.cell 0 rfl rfl XaO.out (by simp; done) (by simp; done)) (RV.tmp _) (XaK.mk' [_, _, _] [] (XuZ _) XaE.nil (VwL.refl _ _))) ?_)
     | refine Xdr (Xaf _ _ (Xc2 rfl (RV.cell 1 rfl rfl XaO.out (by simp; done) (by simp; done)) (RV.tmp _) (XaK.mk' [_, _, _] [] (XuZ _) XaE.nil (VwL.refl _ _))) ?_)
     | refine Xdr (Xaf _ _ (Xc2 rfl (RV.cell 2 rfl rfl XaO.out (by simp; done) (by simp; done)) (RV.tmp _) (XaK.mk' [_, _, _] [] (XuZ _) XaE.nil (VwL.refl _ _))) ?_)
    refine ⟨?_, rfl⟩
    rw [g2'.out, hst'.out, h]
    rfl
   ·have h' := h
    have e2 := he' h'
    subst e2
    refine ⟨rfl, (j + 1, XgO ev (XbY (fs[j].toNat : Nat)) l[j + 1]), by simp only; omega, ⟨by simp only; omega, ?_⟩, rfl, ?_⟩
    ·simp only
     rw [g2'.out, hst'.out, h']
     rfl
    ·exact (XaK.mk' [] _ (XuZ _) (XaE.refl _ _) (by (repeat' (first | exact VwL.nil | (refine VwL.cons ?_ ?_) | exact Vw.refl _ | exact Vw.top _ | fail))))
  ·refine XcX (XdH ?_)
   refine XmD rfl rfl rfl hj ?_
   (repeat' (first | (apply Xdy rfl; (case h => ((apply XaF; (case hs => (intro _ _ h; cases h)); (case hx => rfl); (case hrun => (intro w; simp [wtb, AV.val, go_sem]; skip; rfl))))); (case hT => ((try simp only [wtn]); rfl))) | fail))
   refine XdY ?_
   refine Xaa ?_
   refine XdJ ?_
   (repeat' (first | with_reducible (first | refine Xah ?_ | refine XaW ?_ | refine Xaa ?_ | refine XaM ?_ | refine XaI ?_) | (refine Xai _ rfl (fun h => ?_) (fun h => ?_) <;> first | (exact absurd h (by decide)) | ((try (simp only [] at h)); skip)) | fail))
   refine XdJ ?_
   unfold EF.cells
   (repeat' (first | with_reducible (first | refine Xah ?_ | refine Xac ?_ | refine Xat ?_ | refine Xae ?_ | refine Xaa ?_) | ((apply Xad rfl); (case h => ((first | (apply Xab 0 rfl; (exact Xao _ rfl)) | (apply Xab 6 rfl; (exact XaA _ _ _ _ _ _ _ _ rfl rfl XaZ.out XaO.out (by first | exact XuY rfl | fail) (by first | exact XuY rfl | fail)))))); (case hT => ((try simp only [wtn, ↓reduceIte]); rfl))) | (refine Xaj rfl ?_; (((refine Xaq 16 rfl ?_; ((refine Xau _ _ _ _ _ _ _ rfl rfl XaZ.out XaR.out (by first | rfl | fail) (by first | exact XuY rfl | fail) ?_)))); apply Xak; (case hT => ((try simp only [wtn]); rfl)); (case hH => ((try simp only [wtn, Nat.reduceAdd]); rfl)))) | fail))
   first
    | refine Xdr (Xaf _ _ (Xc2 rfl (RV.cell 0 rfl rfl XaO.out (by simp; done) (by simp; done)) (RV.tmp _) (XaK.mk' [_, _, _] [] (XuZ _) XaE.nil (VwL.refl _ _))) ?_)
    | refine Xdr (Xaf _ _ (Xc2 rfl (RV.cell 1 rfl rfl XaO.out (by simp; done) (by simp; done)) (RV.tmp _) (XaK.mk' [_, _, _] [] (XuZ _) XaE.nil (VwL.refl _ _))) ?_)
    | refine Xdr (Xaf _ _ (Xc2 rfl (RV.cell 2 rfl rfl XaO.out (by simp; done) (by simp; done)) (RV.tmp _) (XaK.mk' [_, _, _] [] (XuZ _) XaE.nil (VwL.refl _ _))) ?_)
   refine ⟨?_, rfl⟩
   rw [g2'.out, List.drop_of_length_le (by simp; omega)]
   rfl
 ·have hno' := Lib.hid hno
  clear hno
  unfold XqX
  (repeat' (first | with_reducible (first | refine Xah ?_ | refine Xac ?_ | refine Xat ?_ | refine Xae ?_ | refine Xaa ?_ | refine Xaw ?_) | (refine Xai _ rfl (fun h => ?_) (fun h => ?_) <;> first | (exact absurd h (by decide)) | ((try (simp only [] at h)); skip)) | ((apply Xdn rfl rfl rfl); (case hT => ((try simp only [wtn]); rfl))) | ((apply Xad rfl); (case h => ((first | (apply Xab 0 rfl; (first | exact Xar _ rfl | exact Xao _ rfl)) | (apply Xab 1 rfl; (exact XbG _ _ _ rfl rfl)) | (apply Xab 2 rfl; (exact XaL _ _ _ _ rfl rfl rfl)) | (apply Xab 10 rfl; (exact XaU _ _ _ _ _ rfl HPl.out (by first | rfl | fail) rfl)) | (apply XaF; (case hs => (intro _ _ h; cases h)); (case hx => rfl); (case hrun => (intro w; simp [wtb, AV.val, go_sem]; skip; rfl)))))); (case hT => ((try simp only [wtn, ↓reduceIte]); rfl))) | (refine Xaj rfl ?_; ((first | (refine Xaq 14 rfl ?_; ((refine XaN _ _ rfl Xbp.out rfl (fun b => ?_)))) | (refine Xaq 16 rfl ?_; ((refine Xau _ _ _ _ _ _ _ rfl rfl XaZ.out XaR.out (by first | rfl | fail) (by first | exact XuY rfl | fail) ?_)))); apply Xak; (case hT => ((try simp only [wtn]); rfl)); (case hH => ((try simp only [wtn, Nat.reduceAdd]); rfl)))) | fail))
  refine Xdr (Xaf _ _ (Xc2 rfl (RV.cell 2 rfl rfl XaO.out (by simp) (by simp)) (RV.tmp _) (XaK.mk' [_, _, _] [] (XuZ _) XaE.nil (VwL.refl _ _))) ?_)
  refine ⟨?_, rfl⟩
  rw [Xgs h1 (fun _ i hi e => by obtain ⟨k, hk, hw⟩ := Xrt i hi; exact hno'.out k hk (by rw [hw]; exact e))]
  rfl
end Go.Proofs.YtdpobjakdplljaaGreatDoor
