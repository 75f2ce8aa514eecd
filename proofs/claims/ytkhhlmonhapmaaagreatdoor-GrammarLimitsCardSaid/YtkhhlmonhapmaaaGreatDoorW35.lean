import Derived.Test.YtkhhlmonhapmaaaGreatDoorW11
import Derived.Defers
import Derived.Recover
import Derived.Test.YtkhhlmonhapmaaaGreatDoorW28
import Derived.Test.YtkhhlmonhapmaaaGreatDoorW22
import Derived.Test.YtkhhlmonhapmaaaGreatDoorW15
/- A walk over symbolic memory: code that lays deferred calls. No program in sight. -/
namespace Go.Proofs.YtkhhlmonhapmaaaGreatDoor
open Go.RowKit
set_option linter.unusedSimpArgs false
set_option linter.unusedVariables false
section
variable {P : Program} {Δ : List Deferred} {V O : Nat → Prop} {w0 w w' : World} {H H' D : List Hp} {T T' : List AV} {a : Act} {o : Oper} {ops : Array Oper} {rest : List Oper} {Q : List Deferred → Post}
def liftd (V O : Nat → Prop) (w0 : World) (Q : List Deferred → Post) : Exit → Act → World → Prop := fun e a w => ∃ Δ T H, Rel Δ V O w0 H T a w ∧ Q Δ e T H
def awpd (P : Program) (Δ : List Deferred) (c : Code) (Q : List Deferred → Post) (T : List AV) (H : List Hp) : Prop :=
  ∀ V O w0 a w, Rel Δ V O w0 H T a w → c.wp P (liftd V O w0 Q) a w
def awpdL (P : Program) (Δ : List Deferred) (ops : Array Oper) (Q : List Deferred → Post) (rest : List Oper) (T : List AV) (H : List Hp) : Prop :=
  ∀ V O w0 a w, Rel Δ V O w0 H T a w → wpList P ops (liftd V O w0 Q) rest a w
theorem awpd_of {c : Code} (h : awp P c (Q Δ) T H) : awpd P Δ c Q T H := fun V O w0 a w r => wp_mono (h Δ V O w0 a w r) fun e a w ⟨T, H, r, q⟩ => ⟨Δ, T, H, r, q⟩
theorem awpd_seq {x y : Code} (h : awp P x (thenA (awpd P Δ y Q) (Q Δ)) T H) : awpd P Δ (.seq x y) Q T H := fun V O w0 a w r =>
  wp_seq (wp_mono (h Δ V O w0 a w r) fun e a w ⟨T, H, r, q⟩ => by
    cases e with
    | normal => exact q V O w0 a w r
    | _ => exact ⟨Δ, T, H, r, q⟩)
theorem awpd_region {id : Nat} {l : List Oper} {y : Code} (h : awpdL P Δ l.toArray (fun Δ' e T H => match e with | .normal => awpd P Δ' y Q T H | e => Q Δ' e T H) l T H) : awpd P Δ (.seq (.region id l.toArray false) y) Q T H := fun V O w0 a w r =>
  wp_seq (wp_mono (wp_region_lit (h V O w0 a w r)) fun e a w ⟨Δ', T, H, r, q⟩ => by
    cases e with
    | normal => exact q V O w0 a w r
    | _ => exact ⟨Δ', T, H, r, q⟩)
theorem awpdL_nil (h : Q Δ .normal T H) : awpdL P Δ ops Q [] T H := fun V O w0 a w r => wpList_nil ⟨Δ, T, H, r, h⟩
theorem awpdL_cons (hg : o.guard = none) (h : Stp P o T H (awpdL P Δ ops Q rest)) : awpdL P Δ ops Q (o :: rest) T H := fun V O w0 a w r =>
  wpList_plain hg fun K hK => h Δ V O w0 a w K _ r fun T' H' a' w' hk hr => hK _ _ (hk V O w0 a' w' hr)
theorem awpdL_evl {T' : List AV} (hg : o.guard = none) (av : AV) (h : Evl P o (ev T) H av) (hT : putT T o.dst av = T') (hK : awpdL P Δ ops Q rest T' H) : awpdL P Δ ops Q (o :: rest) T H := awpdL_cons hg (Stp_evl av h (hT ▸ hK))
theorem awpdL_defer {c : Operand} {args : Array Operand} {tys : Array TypeId} {f : Fn} {fs cs : Array Value} (hg : o.guard = none) (ho : o.op = .defer { callee := .value c, args := args, argTypes := tys }) (hc : ev T c = .x (.func f fs cs)) (ha : args = #[]) (hd : o.dst = none)
    (hK : awpdL P ({ target := .fn f cs, args := fs } :: Δ) ops Q rest T H) : awpdL P Δ ops Q (o :: rest) T H := fun V O w0 a w r => wpList_plain hg fun K hKc => by
  have hrun : (execOp a.eval o).run P w = .ok (.defer { target := .fn f cs, args := fs }) w := by
    simp [execOp, ho, resolve, r.evx hc, Deferred.ofValue, ha]
  unfold Oper.wp
  rw [hrun, Oper.upon_defer, hd]
  refine hKc _ _ (hK V O w0 _ w ⟨r.tmps, r.hok, r.fr, r.own, by rw [← r.defers]; rfl, r.vlt, r.gl⟩)
theorem calls_defers {f : FuncId} {fn : Func} {c : Code} {args : List AV} {R : Ending → World → Prop} {vs : List Value} (hf : P.funcs[f]? = some fn) (hb : fn.body = some c) (hV : ∀ k, V k → k < w.heap.size) (hH : HOk V w H) (hd : DenL (FB V H) w args vs) (hgl : GL (blks H) w)
    (h : awpd P [] c Q (args ++ List.replicate (fn.ntmps - args.length) .top) H)
    (hend : ∀ Δ e T H1 a w', Rel Δ V (blks H) w H1 T a w' → Q Δ e T H1 → bodyPostD P fn R e a w') : Calls P f vs.toArray w R := by
  have hlen := hd.len
  refine calls_of_wp_defers hf hb ?_
  have r : Rel [] V (blks H) w H (args ++ List.replicate (fn.ntmps - args.length) .top) { tmps := vs.toArray ++ Array.replicate (fn.ntmps - vs.toArray.size) undef, defers := [] } w := by
    refine ⟨?_, hH, Fr.refl _ _, fun x hx k hk => .inl ⟨x, hx, hk⟩, rfl, hV, hgl⟩
    simp only [Array.toList_append, Array.toList_replicate, List.size_toArray, hlen]
    refine hd.app (DenL.of (by simp) fun j av u h1 h2 => ?_)
    rw [List.getElem?_replicate] at h1
    split at h1
    · cases h1; rw [Den]; trivial
    · cases h1
  exact wp_mono (h V (blks H) w _ w r) fun e a' w' ⟨Δ, T', H1, r1, hq⟩ => hend Δ e T' H1 a' w' r1 hq
end
end Go.Proofs.YtkhhlmonhapmaaaGreatDoor
/- A walk over symbolic memory: deferred calls that recover. No program in sight. -/
namespace Go.Proofs.YtkhhlmonhapmaaaGreatDoor
open Go.RowKit
set_option linter.unusedSimpArgs false
set_option linter.unusedVariables false
section
variable {P : Program} {Δ : List Deferred} {V O : Nat → Prop} {w0 w w' : World} {H H' D R : List Hp} {T T' : List AV} {a : Act}
def SpecD (P : Program) (f : FuncId) (H : List Hp) (args : List AV) (u u' : FrameMode) (Q : AV → List Hp → Prop) : Prop :=
  ∀ (V : Nat → Prop) (w : World) (vs : List Value), (∀ k, V k → k < w.heap.size) → HOk V w H → DenL (FB V H) w args vs → GL (blks H) w →
    CallsD P f vs.toArray u w fun e u1 w' => u1 = u' ∧ ∃ r H' v, Q r H' ∧ e = .returned v ∧ Den (FB V H') w' r v ∧ HOk V w' H' ∧ Fr (blks H) w w' ∧ ∀ h ∈ H', ∀ k, h.blk = some k → blks H k ∨ w.heap.size ≤ k
theorem SpecD_of {f : FuncId} {fn : Func} {c : Code} {args : List AV} {u u' : FrameMode} {Q : AV → List Hp → Prop} (hf : P.funcs[f]? = some fn) (hb : fn.body = some c)
    (h : ∀ V O w0 a w, Rel [] V O w0 H (args ++ List.replicate (fn.ntmps - args.length) .top) a w → ∀ c₀ cs, c₀.mode = u → c.wpS P (fun e a' cs' w' => cs' = { c₀ with mode := u' } :: cs ∧ lift [] V O w0 (endA P fn Q) e a' w') a (c₀ :: cs) w) : SpecD P f H args u u' Q := by
  intro V w vs hV hH hd hgl
  have hlen := hd.len
  refine callsD_of_wpS hf hb fun c₀ cs hu => ?_
  have r : Rel [] V (blks H) w H (args ++ List.replicate (fn.ntmps - args.length) .top) { tmps := vs.toArray ++ Array.replicate (fn.ntmps - vs.toArray.size) undef, defers := [] } w := by
    refine ⟨?_, hH, Fr.refl _ _, fun x hx k hk => .inl ⟨x, hx, hk⟩, rfl, hV, hgl⟩
    simp only [Array.toList_append, Array.toList_replicate, List.size_toArray, hlen]
    refine hd.app (DenL.of (by simp) fun j av u h1 h2 => ?_)
    rw [List.getElem?_replicate] at h1
    split at h1
    · cases h1; rw [Den]; trivial
    · cases h1
  intro b k hb1 hb2
  obtain ⟨e, a', cs', w', hq, harr⟩ := h V (blks H) w _ w r c₀ cs hu b k hb1 hb2
  refine ⟨e, a', cs', w', ?_, harr⟩
  obtain ⟨hcs, T', H1, r1, he, res, H', hres, hq⟩ := hq
  obtain ⟨v, g1, g2, g3, g4⟩ := hres [] V (blks H) w a' w' r1
  rcases he with rfl | rfl <;> exact ⟨r1.defers, u', hcs, v, g1, rfl, res, H', v, hq, rfl, g2, g3, r1.fr, fun x hx k hk => by obtain ⟨y, hy, e⟩ := g4 x hx k hk; exact r1.own y hy k e⟩
theorem wpS_rec {id : Nat} {o0 o1 : Oper} {y : Code} {s0 s1 : Tmp} {fn : Func} {Q : AV → List Hp → Prop} (h0 : o0.op = .call { callee := .builtin .recover, args := #[], argTypes := #[] }) (d0 : o0.dst = some s0) (g0 : o0.guard = none) (h1 : o1.op = .assign (.tmp s0)) (d1 : o1.dst = some s1) (g1 : o1.guard = none)
    (r : Rel [] V O w0 H T a w) {c₀ : Frame} {cs : List Frame} {v : Value} {m' : FrameMode} (hrec : recoverD (c₀ :: cs) = some (v, { c₀ with mode := m' } :: cs) ∨ recoverD (c₀ :: cs) = none ∧ v = .nilIface ∧ m' = c₀.mode) (hev : ev (putT T (some s0) (.x v)) (.tmp s0) = .x v)
    (hK : awp P y (endA P fn Q) (putT (putT T (some s0) (.x v)) (some s1) (.x v)) H) : (Code.seq (.region id #[o0, o1] false) y).wpS P (fun e a' cs' w' => cs' = { c₀ with mode := m' } :: cs ∧ lift [] V O w0 (endA P fn Q) e a' w') a (c₀ :: cs) w := by
  refine wpS_seq (wpS_region ?_)
  have r1 : Rel [] V O w0 H (putT T (some s0) (.x v)) (a.put (some s0) v) w := r.put _ (by rw [Den])
  have e1 : (a.put (some s0) v).eval (.tmp s0) = v := by
    have := r1.ev (.tmp s0)
    rw [hev, Den] at this
    exact this
  have r2 : Rel [] V O w0 H (putT (putT T (some s0) (.x v)) (some s1) (.x v)) ((a.put (some s0) v).put (some s1) v) w := r1.put _ (by rw [Den])
  have x0 : (execOp a.eval o0).run P w = .ok .recover w := by simp [execOp, h0, resolve, invoke, builtin]
  have x1 : (execOp (a.put (some s0) v).eval o1).run P w = .ok (.value v) w := by simp [execOp, h1, e1]
  have hfin : ∀ cs', cs' = { c₀ with mode := m' } :: cs → y.wpS P (fun e a' cs' w' => cs' = { c₀ with mode := m' } :: cs ∧ lift [] V O w0 (endA P fn Q) e a' w') ((a.put (some s0) v).put (some s1) v) cs' w := by
    rintro cs' rfl
    refine wpS_of_wp (wp_mono (hK [] V O w0 _ w r2) fun e a' w' h => ⟨rfl, h⟩)
  have hw0 : ∀ y, Region.wanted o0 y = true := fun y => by simp [Region.wanted, g0]
  have hw1 : ∀ y, Region.wanted o1 y = true := fun y => by simp [Region.wanted, g1]
  show wpOpsS P #[o0, o1] _ [0, 1] a (c₀ :: cs) w
  have s1' : ∀ cs', cs' = { c₀ with mode := m' } :: cs → wpOpsS P #[o0, o1] (Exit.thenS (y.wpS P (fun e a' cs' w' => cs' = { c₀ with mode := m' } :: cs ∧ lift [] V O w0 (endA P fn Q) e a' w')) (fun e a' cs' w' => cs' = { c₀ with mode := m' } :: cs ∧ lift [] V O w0 (endA P fn Q) e a' w')) [1] (a.put o0.dst v) cs' w := by
    intro cs' hcs
    rw [d0]
    unfold wpOpsS
    simp only [show (#[o0, o1] : Array Oper)[1]? = some o1 from rfl, hw1, if_true, x1]
    unfold Oper.upon
    simp only [wpOpsS, d1]
    exact hfin cs' hcs
  unfold wpOpsS
  simp only [show (#[o0, o1] : Array Oper)[0]? = some o0 from rfl, hw0, if_true, x0]
  rcases hrec with hrec | ⟨hrec, rfl, rfl⟩
  · rw [hrec]
    exact s1' _ rfl
  · rw [hrec]
    exact s1' _ rfl
theorem leaves1 {fn : Func} {fv : Fn} {cap dargs : Array Value} {f : FuncId} {vs : List Value} {H1 : List Hp} {u u' : FrameMode} {QD : AV → List Hp → Prop} {Rp : Ending → World → Prop} (r : Rel Δ V O w0 H T a w) (hp : H.Perm (H1 ++ R)) (hu : u ≠ .run) (hset : settle u' = .returning)
    (hi : (invoke (.fn fv cap) dargs).run P w = .ok (.enter f vs.toArray) w) (hS : SpecD P f H1 (vs.map AV.x) u u' QD)
    (hK : ∀ r' H' w', QD r' H' → Rel Δ V O w0 (H' ++ R) T a w' → ∃ v, (results fn a.tmps).run P w' = .ok v w' ∧ Rp (.returned v) w') : Leaves P fn a.tmps Rp [{ target := .fn fv cap, args := dargs }] u w := by
  have r1 := r.perm hp
  have hap := List.pairwise_append.1 r1.hok.apart
  have hVF : ∀ k, FB (FB V R) H1 k ↔ FB V (H1 ++ R) k := fun k => by
    simp only [FB, List.mem_append]
    constructor
    · rintro ((h | ⟨x, hx, e⟩) | ⟨x, hx, e⟩)
      · exact .inl h
      · exact .inr ⟨x, .inr hx, e⟩
      · exact .inr ⟨x, .inl hx, e⟩
    · rintro (h | ⟨x, hx | hx, e⟩)
      · exact .inl (.inl h)
      · exact .inr ⟨x, hx, e⟩
      · exact .inl (.inr ⟨x, hx, e⟩)
  have hV : ∀ k, FB V R k → k < w.heap.size := fun k hk => by
    rcases hk with hk | ⟨x, hx, e⟩
    · exact Nat.lt_of_lt_of_le (r.vlt k hk) r.fr.size
    · exact (r1.hok.lt x (by simp [hx]) k e).1
  have hH1 : HOk (FB V R) w H1 := ⟨fun x hx => (r1.hok.ok x (by simp [hx])).weak fun k hk => (hVF k).1 hk, hap.1, fun x hx k hk => ⟨(r1.hok.lt x (by simp [hx]) k hk).1, fun hv => by
    rcases hv with hv | ⟨y, hy, e⟩
    · exact (r1.hok.lt x (by simp [hx]) k hk).2 hv
    · exact hap.2.2 x hx y hy k hk e⟩⟩
  refine leaves_cons hu hi ((hS (FB V R) w vs hV hH1 DenL.exact (r1.gb.mono fun k ⟨x, hx, e⟩ => ⟨x, by simp [hx], e⟩)).mono ?_)
  rintro e u1 w' ⟨rfl, r', H', v, hq, rfl, hdv, hok', hfr, hown⟩
  obtain ⟨k1, -⟩ := r1.called hok' hfr hown
  obtain ⟨v', h1, h2⟩ := hK r' H' w' hq k1
  show Leaves P fn a.tmps Rp [] (settle u1) w'
  rw [hset]
  exact ⟨v', h1, h2⟩
def endD (P : Program) (fn : Func) (Q : AV → List Hp → Prop) : List Deferred → Post
  | [], e, T, H => endA P fn Q e T H
  | [d], e, T, H => ∃ (u u' : FrameMode) (f : FuncId) (fv : Fn) (cap dargs : Array Value) (vs : List Value) (H1 R : List Hp) (QD : AV → List Hp → Prop), ((e = .ret ∧ u = .returning) ∨ (e = .normal ∧ u = .returning) ∨ ∃ ch, e = .panic ch ∧ u = .panicking ch) ∧ d = { target := .fn fv cap, args := dargs } ∧ H.Perm (H1 ++ R) ∧ settle u' = .returning ∧
      (∀ w, (invoke (.fn fv cap) dargs).run P w = .ok (.enter f vs.toArray) w) ∧ SpecD P f H1 (vs.map AV.x) u u' QD ∧ ∀ r' H', QD r' H' → ∃ r H'', Res P fn T (H' ++ R) r H'' ∧ Q r H''
  | _, _, _, _ => False
theorem Spec_ofD {f : FuncId} {fn : Func} {c : Code} {args : List AV} {Q : AV → List Hp → Prop} (hf : P.funcs[f]? = some fn) (hb : fn.body = some c)
    (h : awpd P [] c (endD P fn Q) (args ++ List.replicate (fn.ntmps - args.length) .top) H) : Spec P f H args Q := by
  intro V w vs hV hH hd hgl
  refine calls_defers hf hb hV hH hd hgl h ?_
  intro Δ e T H1 a w' r hq
  have hdef := r.defers
  have fin : ∀ res H' Δ (a : Act) w' H1, Rel Δ V (blks H) w H1 T a w' → Res P fn T H1 res H' → Q res H' → ∃ v, (results fn a.tmps).run P w' = .ok v w' ∧ ∃ r H' v', Q r H' ∧ Ending.returned v = .returned v' ∧ Den (FB V H') w' r v' ∧ HOk V w' H' ∧ Fr (blks H) w w' ∧ ∀ h ∈ H', ∀ k, h.blk = some k → blks H k ∨ w.heap.size ≤ k := by
    intro res H' Δ a w' H1 r hres hq
    obtain ⟨v, g1, g2, g3, g4⟩ := hres Δ V (blks H) w a w' r
    exact ⟨v, g1, res, H', v, hq, rfl, g2, g3, r.fr, fun x hx k hk => by obtain ⟨y, hy, e⟩ := g4 x hx k hk; exact r.own y hy k e⟩
  match Δ, hq with
  | [], hq =>
    obtain ⟨he, res, H', hres, hq⟩ := hq
    have := fin res H' _ a w' H1 r hres hq
    rcases he with rfl | rfl
    · show Leaves P fn a.tmps _ a.defers .returning w'
      rw [hdef]; exact this
    · show Leaves P fn a.tmps _ a.defers .returning w'
      rw [hdef]; exact this
  | [d], hq =>
    obtain ⟨u, u', f2, fv, cap, dargs, vs2, H2, R, QD, he, rfl, hp, hset, hi, hS, hK⟩ := hq
    have hk := fun (hu : u ≠ .run) => leaves1 (fn := fn) (Rp := fun e w' => ∃ r H' v', Q r H' ∧ e = .returned v' ∧ Den (FB V H') w' r v' ∧ HOk V w' H' ∧ Fr (blks H) w w' ∧ ∀ h ∈ H', ∀ k, h.blk = some k → blks H k ∨ w.heap.size ≤ k) r hp hu hset (hi w') hS fun r' H' w' hq r' => by
      obtain ⟨res, H'', hres, hq⟩ := hK _ H' hq
      obtain ⟨v, h1, h2⟩ := fin res H'' _ a w' _ r' hres hq
      exact ⟨v, h1, h2⟩
    rcases he with ⟨rfl, rfl⟩ | ⟨rfl, rfl⟩ | ⟨ch, rfl, rfl⟩
    · show Leaves P fn a.tmps _ a.defers .returning w'
      rw [hdef]; exact hk (by simp)
    · show Leaves P fn a.tmps _ a.defers .returning w'
      rw [hdef]; exact hk (by simp)
    · show Leaves P fn a.tmps _ a.defers (.panicking ch) w'
      rw [hdef]; exact hk (by simp)
end
end Go.Proofs.YtkhhlmonhapmaaaGreatDoor
/- The program's parser: what its deferred function does. -/
namespace Go.Proofs.YtkhhlmonhapmaaaGreatDoor
open Go.RowKit
set_option linter.unusedSimpArgs false
set_option linter.unusedVariables false
set_option maxRecDepth 100000 in
set_option maxHeartbeats 8000000 in
theorem catch_p (b2 b3 : Nat) (c : AV) (d0 d1 d2 : AV) (f : Flt) : SpecD Tryz.prog 32 [.box b2 [c], .box b3 [d0, d1, d2]] ([.pointer (some ⟨b2, 0, none⟩), .pointer (some ⟨b3, 0, none⟩)].map AV.x) (.panicking (one1 (fv f))) (.panicking [{ v := fv f, recovered := true }])
    (fun r H' => H' = [.box b2 [.x (.slice none 0 0)], .box b3 [.x (.int .i64 f.code), .x (.int .i64 (f.line : Nat)), .x (.int .i64 (f.col : Nat))]]) := by
  refine SpecD_of Tryz.func32 rfl fun V O w0 a w r c₀ cs hu => ?_
  refine wpS_rec rfl rfl rfl rfl rfl rfl r (v := fv f) (.inl (by simp [recoverD, hu, one1])) rfl ?_
  unfold fv
  simp only [Tryz.ntmps32, List.length_cons, List.length_nil, List.replicate_succ, List.replicate_zero, List.cons_append, List.nil_append, Nat.reduceAdd, Nat.reduceSub, List.map_cons, List.map_nil, putT, List.set_cons_zero, List.set_cons_succ]
  (repeat' (first | with_reducible (first | refine awp_seq ?_ | refine awp_region ?_ | refine awpL_nil ?_ | refine thenA_normal ?_) | (refine awp_cond _ rfl (fun h => ?_) (fun h => ?_) <;> first | (exact absurd h (by decide)) | ((try (simp only [] at h)); skip)) | ((apply awpL_evl2 rfl); (case h => ((first | (apply Evl_k 0 rfl; (exact Evl_mv _ rfl)) | (apply Evl_x; (case hs => (intro _ _ h; cases h)); (case hx => rfl); (case hrun => (intro w; simp [wtb, AV.val, go_sem]; skip; rfl)))))); (case hT => ((try simp only [wtn, ↓reduceIte]); rfl))) | (refine awpL_cons rfl ?_; (((refine Stp_k 16 rfl ?_; ((refine Stp_store _ _ _ _ _ _ _ rfl rfl FBox.out HSize.out (by first | rfl | fail) (by first | exact Nat.le_of_ble_eq_true rfl | fail) ?_)))); apply awpL_cong; (case hT => ((try simp only [wtn]); rfl)); (case hH => ((try simp only [wtn, Nat.reduceAdd]); rfl)))) | fail))
  exact endA_normal _ _ (Res0 rfl (Weak.mk' [] _ (List.Perm.refl _) (VwHs.refl _ _) VwL.nil)) rfl
set_option maxRecDepth 100000 in
set_option maxHeartbeats 8000000 in
theorem idle_p (b2 b3 : Nat) (H : List Hp) : SpecD Tryz.prog 32 H ([.pointer (some ⟨b2, 0, none⟩), .pointer (some ⟨b3, 0, none⟩)].map AV.x) .returning .returning (fun r H' => H' = H) := by
  refine SpecD_of Tryz.func32 rfl fun V O w0 a w r c₀ cs hu => ?_
  refine wpS_rec rfl rfl rfl rfl rfl rfl r (v := .nilIface) (.inr ⟨by simp [recoverD, hu], rfl, hu.symm⟩) rfl ?_
  simp only [Tryz.ntmps32, List.length_cons, List.length_nil, List.replicate_succ, List.replicate_zero, List.cons_append, List.nil_append, Nat.reduceAdd, Nat.reduceSub, List.map_cons, List.map_nil, putT, List.set_cons_zero, List.set_cons_succ]
  (repeat' (first | with_reducible (first | refine awp_seq ?_ | refine awp_region ?_ | refine awp_skip ?_ | refine awpL_nil ?_ | refine thenA_normal ?_) | (refine awp_cond _ rfl (fun h => ?_) (fun h => ?_) <;> first | (exact absurd h (by decide)) | ((try (simp only [] at h)); skip)) | ((apply awpL_evl2 rfl); (case h => ((first | (apply Evl_k 0 rfl; (exact Evl_mv _ rfl)) | (apply Evl_x; (case hs => (intro _ _ h; cases h)); (case hx => rfl); (case hrun => (intro w; simp [wtb, AV.val, go_sem]; skip; rfl)))))); (case hT => ((try simp only [wtn]); rfl))) | fail))
  exact endA_normal _ _ (Res0 rfl (Weak.mk' [] _ (List.Perm.refl _) (VwHs.refl _ _) VwL.nil)) rfl
end Go.Proofs.YtkhhlmonhapmaaaGreatDoor
/- The program's lexer: letters, digits, digits of base 16, what stands behind a mark. -/
namespace Go.Proofs.YtkhhlmonhapmaaaGreatDoor
open Go.RowKit
set_option linter.unusedSimpArgs false
set_option linter.unusedVariables false
def ByteTest (f : Nat) (p : UInt8 → Bool) : Prop := ∀ b : UInt8, Spec Tryz.prog f [] [.x (.int .u8 (b.toNat : Nat))] (fun r H' => r = .x (.bool (p b)) ∧ H' = [])
def hexI (b : UInt8) : Int := match hexv b with | some n => (n : Int) | none => -1
theorem hexI_some {b : UInt8} {n : Nat} (h : hexv b = some n) : hexI b = n := by unfold hexI; rw [h]
theorem hexI_none {b : UInt8} (h : hexv b = none) : hexI b = -1 := by unfold hexI; rw [h]
set_option maxRecDepth 100000 in
set_option maxHeartbeats 8000000 in
theorem isLetter_s : ByteTest 116 isLet := by
  intro b
  refine Spec_of Tryz.func116 rfl ?_
  simp only [Tryz.ntmps116, List.length_cons, List.length_nil, List.replicate_succ, List.replicate_zero, List.cons_append, List.nil_append, Nat.reduceAdd, Nat.reduceSub]
  (repeat' (first | with_reducible (first | refine awp_seq ?_ | refine awp_region ?_ | refine awp_ret ?_ | refine awpL_nil ?_ | refine thenA_normal ?_) | ((first | apply awpL_evl2 rfl | apply awpL_g2 _ _ rfl rfl rfl); (case h => ((try (intro (hp : (_ : Bool) = true); ((try simp only [Bool.and_eq_true, Bool.not_eq_true'] at hp); (try simp only [hp, wte]); (try simp only [whn] at hp)))); (first | (apply Evl_k 0 rfl; (first | exact Evl_mv _ rfl | exact Evl_as _ rfl)) | (apply Evl_k 1 rfl; (first | exact Evl_and _ _ _ _ _ rfl rfl rfl rfl | exact Evl_or _ _ _ _ _ rfl rfl rfl rfl | exact Evl_and' _ _ _ _ _ rfl rfl rfl rfl)) | (apply Evl_x; (case hs => (intro _ _ h; cases h)); (case hx => rfl); (case hrun => (intro w; simp [wtb, AV.val, go_sem]; skip; rfl)))))); (case hT => ((try simp only [wtn]); rfl))) | fail))
  refine endA_ret _ _ (Res1 rfl (RV.tmp _) (Weak.mk' [] _ (List.Perm.refl _) (VwHs.refl _ _) (VwL.refl _ _))) ?_
  refine ⟨?_, rfl⟩
  simp only [ev, List.getD_cons_succ, List.getD_cons_zero]
  congr 2
  rw [Bool.eq_iff_iff]
  unfold isLet
  simp only [Bool.and_eq_true, Bool.or_eq_true, decide_eq_true_eq, beq_iff_eq]
  omega
set_option maxRecDepth 100000 in
set_option maxHeartbeats 8000000 in
theorem isDigit_s : ByteTest 119 isDig := by
  intro b
  refine Spec_of Tryz.func119 rfl ?_
  simp only [Tryz.ntmps119, List.length_cons, List.length_nil, List.replicate_succ, List.replicate_zero, List.cons_append, List.nil_append, Nat.reduceAdd, Nat.reduceSub]
  (repeat' (first | with_reducible (first | refine awp_seq ?_ | refine awp_region ?_ | refine awp_ret ?_ | refine awpL_nil ?_ | refine thenA_normal ?_) | ((first | apply awpL_evl2 rfl | apply awpL_g2 _ _ rfl rfl rfl); (case h => ((try (intro (hp : (_ : Bool) = true); ((try simp only [hp]); (try simp only [whn] at hp)))); (first | (apply Evl_k 0 rfl; (first | exact Evl_mv _ rfl | exact Evl_as _ rfl)) | (apply Evl_k 1 rfl; (exact Evl_and _ _ _ _ _ rfl rfl rfl rfl)) | (apply Evl_x; (case hs => (intro _ _ h; cases h)); (case hx => rfl); (case hrun => (intro w; simp [wtb, AV.val, go_sem]; skip; rfl)))))); (case hT => ((try simp only [wtn]); rfl))) | fail))
  refine endA_ret _ _ (Res1 rfl (RV.tmp _) (Weak.mk' [] _ (List.Perm.refl _) (VwHs.refl _ _) (VwL.refl _ _))) ?_
  refine ⟨?_, rfl⟩
  simp only [ev, List.getD_cons_succ, List.getD_cons_zero]
  congr 2
  rw [Bool.eq_iff_iff]
  unfold isDig
  simp only [Bool.and_eq_true, decide_eq_true_eq]
  omega
set_option maxRecDepth 100000 in
set_option maxHeartbeats 8000000 in
theorem isWord_s : ByteTest 118 isWrd := by
  intro b
  refine Spec_of Tryz.func118 rfl ?_
  simp only [Tryz.ntmps118, List.length_cons, List.length_nil, List.replicate_succ, List.replicate_zero, List.cons_append, List.nil_append, Nat.reduceAdd, Nat.reduceSub]
  (repeat' (first | with_reducible (first | refine awp_seq ?_ | refine awp_region ?_ | refine awp_ret ?_ | refine awpL_nil ?_ | refine thenA_normal ?_) | ((first | apply awpL_evl2 rfl | apply awpL_g2 _ _ rfl rfl rfl); (case h => ((try (intro (hp : (_ : Bool) = true); ((try simp only [Bool.not_eq_true'] at hp); (try simp only [hp, wte]); (try simp only [whn] at hp)))); (first | (apply Evl_k 0 rfl; (first | exact Evl_mv _ rfl | exact Evl_as _ rfl)) | (apply Evl_k 1 rfl; (exact Evl_or _ _ _ _ _ rfl rfl rfl rfl)) | (apply Evl_k 11 rfl; (first | exact Evl_call 116 Tryz.f116 _ _ rfl rfl Tryz.func116 (by decide) rfl (VwL.refl _ _) (isLetter_s b) | exact Evl_call 119 Tryz.f119 _ _ rfl rfl Tryz.func119 (by decide) rfl (VwL.refl _ _) (isDigit_s b))) | (apply Evl_x; (case hs => (intro _ _ h; cases h)); (case hx => rfl); (case hrun => (intro w; simp [wtb, AV.val, go_sem]; skip; rfl)))))); (case hT => ((try simp only [wtn]); rfl))) | fail))
  refine endA_ret _ _ (Res1 rfl (RV.tmp _) (Weak.mk' [] _ (List.Perm.refl _) (VwHs.refl _ _) (VwL.refl _ _))) ?_
  refine ⟨?_, rfl⟩
  simp only [ev, List.getD_cons_succ, List.getD_cons_zero]
  congr 2
  rw [Bool.eq_iff_iff]
  unfold isWrd
  simp only [Bool.or_eq_true, decide_eq_true_eq, beq_iff_eq]
  rcases Bool.eq_false_or_eq_true (isLet b) with h1 | h1 <;> rcases Bool.eq_false_or_eq_true (isDig b) with h2 | h2 <;> simp [h1, h2] <;> omega
set_option maxRecDepth 100000 in
set_option maxHeartbeats 8000000 in
theorem hex_s (b : UInt8) : Spec Tryz.prog 147 [] [.x (.int .u8 (b.toNat : Nat))] (fun r H' => r = .x (.int .i64 (hexI b)) ∧ H' = []) := by
  have hb := b.toNat_lt
  refine Spec_of Tryz.func147 rfl ?_
  simp only [Tryz.ntmps147, List.length_cons, List.length_nil, List.replicate_succ, List.replicate_zero, List.cons_append, List.nil_append, Nat.reduceAdd, Nat.reduceSub]
  (repeat' (first | with_reducible (first | refine awp_seq ?_ | refine awp_region ?_ | refine awp_block ?_ | refine awp_ret ?_ | refine awp_skip ?_ | refine awpL_nil ?_ | refine thenA_normal ?_ | refine thenA_ret ?_ | refine inBlockA_normal ?_ | refine inBlockA_ret ?_) | (refine awp_cond _ rfl (fun h => ?_) (fun h => ?_) <;> ((try (simp only [whn] at h)); skip)) | ((first | apply awpL_evl2 rfl | apply awpL_g2 _ _ rfl rfl rfl); (case h => ((try (intro (hp : (_ : Bool) = true); ((try simp only [hp]); (try simp only [whn] at hp)))); (first | (apply Evl_k 0 rfl; (first | exact Evl_mv _ rfl | exact Evl_as _ rfl)) | (apply Evl_k 1 rfl; (exact Evl_and _ _ _ _ _ rfl rfl rfl rfl)) | (apply Evl_x; (case hs => (intro _ _ h; cases h)); (case hx => rfl); (case hrun => (intro w; simp [wtb, AV.val, go_sem]; (try go_bits); rfl)))))); (case hT => ((try simp only [wtn]); rfl))) | fail))
  all_goals
    refine endA_ret _ _ (Res1 rfl (RV.tmp _) (Weak.mk' [] _ (List.Perm.refl _) (VwHs.refl _ _) (VwL.refl _ _))) ?_
    refine ⟨?_, rfl⟩
    simp only [ev, List.getD_cons_succ, List.getD_cons_zero]
    congr 2
    unfold hexI hexv
    first
      | (rw [if_pos (by omega)]; simp only; omega)
      | (rw [if_neg (by omega), if_pos (by omega)]; simp only; omega)
      | (rw [if_neg (by omega), if_neg (by omega), if_pos (by omega)]; simp only; omega)
      | (rw [if_neg (by omega), if_neg (by omega), if_neg (by omega)])
end Go.Proofs.YtkhhlmonhapmaaaGreatDoor
