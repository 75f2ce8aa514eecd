import Derived.Test.YtkhhlmonhapmaaaGreatDoorW5
/- A walk over symbolic memory: how a function ends, calls that lend, calls of function values, regions that draw. No program in sight. -/
namespace Go.Proofs.YtkhhlmonhapmaaaGreatDoor
open Go.RowKit
set_option linter.unusedSimpArgs false
set_option linter.unusedVariables false
section
variable {P : Program} {Δ : List Deferred} {V O : Nat → Prop} {w0 w w' : World} {H H' D : List Hp} {T T' : List AV} {a : Act} {o : Oper} {K : List AV → List Hp → Prop}
theorem forgetL (hok : HOk V w H) {vs : List Value} (hd : DenL (FB V H) w T vs) (h : Weak H T H' T') : HOk V w H' ∧ DenL (FB V H') w T' vs ∧ ∀ x ∈ H', ∀ k, x.blk = some k → blks H k := by
  obtain ⟨D, R, hp, hH, hT⟩ := h.ex
  have hok1 : HOk V w (D ++ R) := ⟨fun x hx => (hok.ok x (hp.mem_iff.2 hx)).weak (FB.perm hp), hp.pairwise hok.apart (fun {a b} hab k hb ha => hab k ha hb), fun x hx => hok.lt x (hp.mem_iff.2 hx)⟩
  have hd1 := hd.weak (FB.perm (V := V) hp)
  have hap := List.pairwise_append.1 hok1.apart
  have hF : ∀ k, FB V H' k → FB V (D ++ R) k := fun k hk => hk.imp id fun ⟨x, hx, e⟩ => by
    obtain ⟨y, hy, hxy⟩ := hH.mem x hx
    exact ⟨y, by simp [hy], hxy.blk ▸ e⟩
  have hD : ∀ h ∈ D, HpOk (FB V (D ++ R)) w h ∧ ∀ k, h.blk = some k → ¬ FB V H' k := fun h hh => ⟨hok1.ok h (by simp [hh]), fun k hk hf => by
    rcases hf with hv | ⟨x, hx, e⟩
    · exact (hok1.lt h (by simp [hh]) k hk).2 hv
    · obtain ⟨y, hy, hxy⟩ := hH.mem x hx
      exact hap.2.2 h hh y hy k hk (hxy.blk ▸ e)⟩
  refine ⟨⟨fun x hx => ?_, hH.apart hap.2.1, fun x hx k hk => ?_⟩, hT.den hF hD _ hd1, fun x hx k hk => ?_⟩
  · obtain ⟨y, hy, hxy⟩ := hH.mem x hx
    exact hxy.ok hF hD (hok1.ok y (by simp [hy]))
  · obtain ⟨y, hy, hxy⟩ := hH.mem x hx
    exact hok1.lt y (by simp [hy]) k (hxy.blk ▸ hk)
  · obtain ⟨y, hy, hxy⟩ := hH.mem x hx
    exact ⟨y, hp.mem_iff.2 (by simp [hy]), hxy.blk ▸ hk⟩
def RV (P : Program) (T : List AV) (H : List Hp) (rv : ResultVar) (av : AV) : Prop :=
  (∃ t, rv = .tmp t ∧ av = ev T (.tmp t)) ∨ ∃ t ty b cells agg n, ∃ i : Nat, rv = .cell t ty ∧ ev T (.tmp t) = .x (.pointer (some ⟨b, 0, none⟩)) ∧ H[i]? = some (.box b cells) ∧ aggT P ty = some (agg, n) ∧ n ≤ cells.length ∧ 0 < cells.length ∧ av = ldA agg n cells
theorem RV.tmp (t : Nat) : RV P T H (.tmp t) (ev T (.tmp t)) := .inl ⟨t, rfl, rfl⟩
theorem RV.cell (i : Nat) {t : Nat} {ty : TypeId} {b : Nat} {cells : List AV} {agg : Bool} {n : Nat} (h1 : ev T (.tmp t) = .x (.pointer (some ⟨b, 0, none⟩))) (h2 : H[i]? = some (.box b cells)) (h3 : aggT P ty = some (agg, n)) (h4 : n ≤ cells.length) (h5 : 0 < cells.length) : RV P T H (.cell t ty) (ldA agg n cells) :=
  .inr ⟨t, ty, b, cells, agg, n, i, rfl, h1, h2, h3, h4, h5, rfl⟩
def RR (P : Program) (a : Act) (w : World) (v : Value) : ResultVar → Prop
  | .tmp t => a.tmps.getD t undef = v
  | .cell p t => ∃ ad, a.tmps.getD p undef = .pointer (some ad) ∧ (loadVar t ad).run P w = .ok v w
theorem RV.run (r : Rel Δ V O w0 H T a w) {rv : ResultVar} {av : AV} (h : RV P T H rv av) : ∃ v, RR P a w v rv ∧ Den (FB V H) w av v := by
  rcases h with ⟨t, rfl, rfl⟩ | ⟨t, ty, b, cells, agg, n, i, rfl, h1, h2, h3, h4, h5, rfl⟩
  · exact ⟨_, rfl, r.ev (.tmp t)⟩
  · obtain ⟨vals, hd, hl, hc⟩ := r.hp i _ h2
    obtain ⟨v, hr, hdv⟩ := run_loadVar_cells (P := P) ty agg n h3 w _ b 0 cells vals hd (fun j u hj => by simpa using (hc j u hj).1) h4 (fun _ => h5)
    exact ⟨v, ⟨_, r.evx h1, hr⟩, hdv⟩
def Res (P : Program) (fn : Func) (T : List AV) (H : List Hp) (r : AV) (H' : List Hp) : Prop :=
  ∀ Δ V O w0 a w, Rel Δ V O w0 H T a w → ∃ v, (results fn a.tmps).run P w = .ok v w ∧ Den (FB V H') w r v ∧ HOk V w H' ∧ ∀ h ∈ H', ∀ k, h.blk = some k → blks H k
theorem Res1 {fn : Func} {x : ResultVar} {av r : AV} (hr : fn.results = #[x]) (h : RV P T H x av) (hw : Weak H [av] H' [r]) : Res P fn T H r H' := by
  intro Δ V O w0 a w rel
  obtain ⟨v, h1, h2⟩ := h.run rel
  have hd : DenL (FB V H) w [av] [v] := by simp only [DenL]; exact ⟨v, [], rfl, h2, rfl⟩
  obtain ⟨g1, g2, g3⟩ := forgetL rel.hok hd hw
  refine ⟨v, ?_, by simp only [DenL] at g2; obtain ⟨u, us, e, hu, _⟩ := g2; cases e; exact hu, g1, g3⟩
  cases x with
  | tmp t => simp only [RR] at h1; simp at h1; simp [results, hr, h1]
  | cell p t => obtain ⟨ad, e1, e2⟩ := h1; simp at e1; simp [results, hr, e1, asAddr, e2]
theorem Res0 {fn : Func} (hr : fn.results = #[]) (hw : Weak H [] H' []) : Res P fn T H (.x (.tuple #[])) H' := by
  intro Δ V O w0 a w rel
  obtain ⟨g1, g2, g3⟩ := forgetL (vs := []) rel.hok (by rw [DenL]) hw
  exact ⟨.tuple #[], by simp [results, hr], by simp [Den], g1, g3⟩
theorem Res2 {fn : Func} {x1 x2 : ResultVar} {a1 a2 : AV} {r1 r2 : AV} (hr : fn.results = #[x1, x2]) (h1 : RV P T H x1 a1) (h2 : RV P T H x2 a2) (hw : Weak H [a1, a2] H' [r1, r2]) : Res P fn T H (.tup [r1, r2]) H' := by
  intro Δ V O w0 a w rel
  obtain ⟨v1, e1, d1⟩ := h1.run rel
  obtain ⟨v2, e2, d2⟩ := h2.run rel
  have hd : DenL (FB V H) w [a1, a2] [v1, v2] := by simp only [DenL]; exact ⟨_, _, rfl, d1, _, _, rfl, d2, rfl⟩
  obtain ⟨g1, g2, g3⟩ := forgetL rel.hok hd hw
  refine ⟨.tuple #[v1, v2], ?_, by rw [Den]; exact ⟨[v1, v2], rfl, g2⟩, g1, g3⟩
  cases x1 <;> cases x2
  · simp only [RR] at e1; simp at e1; simp only [RR] at e2; simp at e2; simp [results, hr, asAddr, e1, e2]
  · simp only [RR] at e1; simp at e1; obtain ⟨ad2, e2, f2⟩ := e2; simp at e2; simp [results, hr, asAddr, e1, e2, f2]
  · obtain ⟨ad1, e1, f1⟩ := e1; simp at e1; simp only [RR] at e2; simp at e2; simp [results, hr, asAddr, e1, f1, e2]
  · obtain ⟨ad1, e1, f1⟩ := e1; simp at e1; obtain ⟨ad2, e2, f2⟩ := e2; simp at e2; simp [results, hr, asAddr, e1, f1, e2, f2]
theorem Res4 {fn : Func} {x1 x2 x3 x4 : ResultVar} {a1 a2 a3 a4 : AV} {r1 r2 r3 r4 : AV} (hr : fn.results = #[x1, x2, x3, x4]) (h1 : RV P T H x1 a1) (h2 : RV P T H x2 a2) (h3 : RV P T H x3 a3) (h4 : RV P T H x4 a4) (hw : Weak H [a1, a2, a3, a4] H' [r1, r2, r3, r4]) : Res P fn T H (.tup [r1, r2, r3, r4]) H' := by
  intro Δ V O w0 a w rel
  obtain ⟨v1, e1, d1⟩ := h1.run rel
  obtain ⟨v2, e2, d2⟩ := h2.run rel
  obtain ⟨v3, e3, d3⟩ := h3.run rel
  obtain ⟨v4, e4, d4⟩ := h4.run rel
  have hd : DenL (FB V H) w [a1, a2, a3, a4] [v1, v2, v3, v4] := by simp only [DenL]; exact ⟨_, _, rfl, d1, _, _, rfl, d2, _, _, rfl, d3, _, _, rfl, d4, rfl⟩
  obtain ⟨g1, g2, g3⟩ := forgetL rel.hok hd hw
  refine ⟨.tuple #[v1, v2, v3, v4], ?_, by rw [Den]; exact ⟨[v1, v2, v3, v4], rfl, g2⟩, g1, g3⟩
  cases x1 <;> cases x2 <;> cases x3 <;> cases x4
  · simp only [RR] at e1; simp at e1; simp only [RR] at e2; simp at e2; simp only [RR] at e3; simp at e3; simp only [RR] at e4; simp at e4; simp [results, hr, asAddr, e1, e2, e3, e4]
  · simp only [RR] at e1; simp at e1; simp only [RR] at e2; simp at e2; simp only [RR] at e3; simp at e3; obtain ⟨ad4, e4, f4⟩ := e4; simp at e4; simp [results, hr, asAddr, e1, e2, e3, e4, f4]
  · simp only [RR] at e1; simp at e1; simp only [RR] at e2; simp at e2; obtain ⟨ad3, e3, f3⟩ := e3; simp at e3; simp only [RR] at e4; simp at e4; simp [results, hr, asAddr, e1, e2, e3, f3, e4]
  · simp only [RR] at e1; simp at e1; simp only [RR] at e2; simp at e2; obtain ⟨ad3, e3, f3⟩ := e3; simp at e3; obtain ⟨ad4, e4, f4⟩ := e4; simp at e4; simp [results, hr, asAddr, e1, e2, e3, f3, e4, f4]
  · simp only [RR] at e1; simp at e1; obtain ⟨ad2, e2, f2⟩ := e2; simp at e2; simp only [RR] at e3; simp at e3; simp only [RR] at e4; simp at e4; simp [results, hr, asAddr, e1, e2, f2, e3, e4]
  · simp only [RR] at e1; simp at e1; obtain ⟨ad2, e2, f2⟩ := e2; simp at e2; simp only [RR] at e3; simp at e3; obtain ⟨ad4, e4, f4⟩ := e4; simp at e4; simp [results, hr, asAddr, e1, e2, f2, e3, e4, f4]
  · simp only [RR] at e1; simp at e1; obtain ⟨ad2, e2, f2⟩ := e2; simp at e2; obtain ⟨ad3, e3, f3⟩ := e3; simp at e3; simp only [RR] at e4; simp at e4; simp [results, hr, asAddr, e1, e2, f2, e3, f3, e4]
  · simp only [RR] at e1; simp at e1; obtain ⟨ad2, e2, f2⟩ := e2; simp at e2; obtain ⟨ad3, e3, f3⟩ := e3; simp at e3; obtain ⟨ad4, e4, f4⟩ := e4; simp at e4; simp [results, hr, asAddr, e1, e2, f2, e3, f3, e4, f4]
  · obtain ⟨ad1, e1, f1⟩ := e1; simp at e1; simp only [RR] at e2; simp at e2; simp only [RR] at e3; simp at e3; simp only [RR] at e4; simp at e4; simp [results, hr, asAddr, e1, f1, e2, e3, e4]
  · obtain ⟨ad1, e1, f1⟩ := e1; simp at e1; simp only [RR] at e2; simp at e2; simp only [RR] at e3; simp at e3; obtain ⟨ad4, e4, f4⟩ := e4; simp at e4; simp [results, hr, asAddr, e1, f1, e2, e3, e4, f4]
  · obtain ⟨ad1, e1, f1⟩ := e1; simp at e1; simp only [RR] at e2; simp at e2; obtain ⟨ad3, e3, f3⟩ := e3; simp at e3; simp only [RR] at e4; simp at e4; simp [results, hr, asAddr, e1, f1, e2, e3, f3, e4]
  · obtain ⟨ad1, e1, f1⟩ := e1; simp at e1; simp only [RR] at e2; simp at e2; obtain ⟨ad3, e3, f3⟩ := e3; simp at e3; obtain ⟨ad4, e4, f4⟩ := e4; simp at e4; simp [results, hr, asAddr, e1, f1, e2, e3, f3, e4, f4]
  · obtain ⟨ad1, e1, f1⟩ := e1; simp at e1; obtain ⟨ad2, e2, f2⟩ := e2; simp at e2; simp only [RR] at e3; simp at e3; simp only [RR] at e4; simp at e4; simp [results, hr, asAddr, e1, f1, e2, f2, e3, e4]
  · obtain ⟨ad1, e1, f1⟩ := e1; simp at e1; obtain ⟨ad2, e2, f2⟩ := e2; simp at e2; simp only [RR] at e3; simp at e3; obtain ⟨ad4, e4, f4⟩ := e4; simp at e4; simp [results, hr, asAddr, e1, f1, e2, f2, e3, e4, f4]
  · obtain ⟨ad1, e1, f1⟩ := e1; simp at e1; obtain ⟨ad2, e2, f2⟩ := e2; simp at e2; obtain ⟨ad3, e3, f3⟩ := e3; simp at e3; simp only [RR] at e4; simp at e4; simp [results, hr, asAddr, e1, f1, e2, f2, e3, f3, e4]
  · obtain ⟨ad1, e1, f1⟩ := e1; simp at e1; obtain ⟨ad2, e2, f2⟩ := e2; simp at e2; obtain ⟨ad3, e3, f3⟩ := e3; simp at e3; obtain ⟨ad4, e4, f4⟩ := e4; simp at e4; simp [results, hr, asAddr, e1, f1, e2, f2, e3, f3, e4, f4]
def endA (P : Program) (fn : Func) (Q : AV → List Hp → Prop) : Post := fun e T H => (e = .ret ∨ e = .normal) ∧ ∃ r H', Res P fn T H r H' ∧ Q r H'
theorem endA_ret {fn : Func} {Q : AV → List Hp → Prop} (r : AV) (H' : List Hp) (h : Res P fn T H r H') (q : Q r H') : endA P fn Q .ret T H := ⟨.inl rfl, r, H', h, q⟩
theorem endA_normal {fn : Func} {Q : AV → List Hp → Prop} (r : AV) (H' : List Hp) (h : Res P fn T H r H') (q : Q r H') : endA P fn Q .normal T H := ⟨.inr rfl, r, H', h, q⟩
theorem Spec_of {f : FuncId} {fn : Func} {c : Code} {args : List AV} {Q : AV → List Hp → Prop} (hf : P.funcs[f]? = some fn) (hb : fn.body = some c)
    (h : awp P c (endA P fn Q) (args ++ List.replicate (fn.ntmps - args.length) .top) H) : Spec P f H args Q := by
  intro V w vs hV hH hd hgl
  have hlen := hd.len
  refine calls_of_wp hf hb ?_
  have r : Rel [] V (blks H) w H (args ++ List.replicate (fn.ntmps - args.length) .top) { tmps := vs.toArray ++ Array.replicate (fn.ntmps - vs.toArray.size) undef, defers := [] } w := by
    refine ⟨?_, hH, Fr.refl _ _, fun x hx k hk => .inl ⟨x, hx, hk⟩, rfl, hV, hgl⟩
    simp only [Array.toList_append, Array.toList_replicate, List.size_toArray, hlen]
    refine hd.app (DenL.of (by simp) fun j av u h1 h2 => ?_)
    rw [List.getElem?_replicate] at h1
    split at h1
    · cases h1; rw [Den]; trivial
    · cases h1
  refine wp_mono (h [] V (blks H) w _ w r) ?_
  rintro e a' w' ⟨T', H1, r1, he, res, H', hres, hq⟩
  obtain ⟨v, g1, g2, g3, g4⟩ := hres [] V (blks H) w a' w' r1
  have hend : ∃ r H' v, Q r H' ∧ Ending.returned v = .returned v ∧ Den (FB V H') w' r v ∧ HOk V w' H' ∧ Fr (blks H) w w' ∧ ∀ h ∈ H', ∀ k, h.blk = some k → blks H k ∨ w.heap.size ≤ k :=
    ⟨res, H', v, hq, rfl, g2, g3, r1.fr, fun x hx k hk => by obtain ⟨y, hy, e⟩ := g4 x hx k hk; exact r1.own y hy k e⟩
  rcases he with rfl | rfl
  · refine ⟨r1.defers, v, g1, res, H', v, hq, rfl, g2, g3, r1.fr, fun x hx k hk => by obtain ⟨y, hy, e⟩ := g4 x hx k hk; exact r1.own y hy k e⟩
  · refine ⟨r1.defers, v, g1, res, H', v, hq, rfl, g2, g3, r1.fr, fun x hx k hk => by obtain ⟨y, hy, e⟩ := g4 x hx k hk; exact r1.own y hy k e⟩
theorem Spec_callsG {f : FuncId} {args : List Value} {v : Value} (h : ∀ w, Gw w → Calls P f args.toArray w fun e w' => e = .returned v ∧ Ext w w') (H : List Hp) : Spec P f H (args.map .x) fun r H' => r = .x v ∧ H' = H := by
  intro V w vs hV hH hd hgl
  rw [hd.exact']
  refine (h w hgl.2).mono ?_
  rintro e w' ⟨rfl, hE⟩
  refine ⟨.x v, H, v, ⟨rfl, rfl⟩, rfl, by rw [Den], ⟨fun x hx => (hH.ok x hx).conv (fun k hk => .inl hk) (fun k hk _ => hE.block k hk) hE.size (fun k hk => hE.block k (hH.lt x hx k hk).1), hH.apart, fun x hx k hk => ⟨Nat.lt_of_lt_of_le (hH.lt x hx k hk).1 hE.size, (hH.lt x hx k hk).2⟩⟩, hE.fr _, fun x hx k hk => .inl ⟨x, hx, hk⟩⟩
theorem Spec_calls {f : FuncId} {args : List Value} {v : Value} (h : ∀ w, Calls P f args.toArray w fun e w' => e = .returned v ∧ Ext w w') (H : List Hp) : Spec P f H (args.map .x) fun r H' => r = .x v ∧ H' = H := Spec_callsG (fun w _ => h w) H
theorem Spec.frame {f : FuncId} {args : List AV} {Q : AV → List Hp → Prop} (h : Spec P f H args Q) (R : List Hp) : Spec P f (H ++ R) args fun r H' => ∃ H1, Q r H1 ∧ H' = H1 ++ R := by
  intro V w vs hV hH hd hgl
  have hap := List.pairwise_append.1 hH.apart
  have hVF : ∀ H1 k, FB (FB V R) H1 k ↔ FB V (H1 ++ R) k := fun H1 k => by
    simp only [FB, List.mem_append]
    constructor
    · rintro ((h | ⟨x, hx, e⟩) | ⟨x, hx, e⟩)
      · exact .inl h
      · exact .inr ⟨x, .inr hx, e⟩
      · exact .inr ⟨x, .inl hx, e⟩
    · rintro (h | ⟨x, hx | hx, e⟩)
      · exact .inl (.inl h)
      · exact .inr ⟨x, hx, e⟩
      · exact .inl (.inr ⟨x, hx, e⟩)
  refine (h (FB V R) w vs (fun k hk => ?_) ⟨fun x hx => (hH.ok x (by simp [hx])).weak fun k hk => (hVF H k).1 hk, hap.1, fun x hx k hk => ⟨(hH.lt x (by simp [hx]) k hk).1, fun hv => ?_⟩⟩ (hd.weak fun k hk => (hVF H k).1 hk) (hgl.mono fun k ⟨x, hx, e⟩ => ⟨x, by simp [hx], e⟩)).mono ?_
  · rcases hk with hk | ⟨x, hx, e⟩
    · exact hV k hk
    · exact (hH.lt x (by simp [hx]) k e).1
  · rcases hv with hv | ⟨y, hy, e⟩
    · exact (hH.lt x (by simp [hx]) k hk).2 hv
    · exact hap.2.2 x hx y hy k hk e
  · rintro e w' ⟨r, H1, v, hq, rfl, hdv, hok, hfr, hown⟩
    have hF : ∀ k, FB V (H1 ++ R) k → FB V (H ++ R) k ∨ w.heap.size ≤ k := fun k hk => by
      rcases (hVF H1 k).2 hk with hk | ⟨x, hx, e⟩
      · exact .inl ((hVF H k).1 (.inl hk))
      · rcases hown x hx k e with ⟨y, hy, e'⟩ | h
        · exact .inl ((hVF H k).1 (.inr ⟨y, hy, e'⟩))
        · exact .inr h
    have hw : ∀ k, k < w.heap.size → ¬ FB V (H ++ R) k → w'.heap[k]? = w.heap[k]? := fun k hk hn => hfr.block k hk fun ⟨y, hy, e⟩ => hn (.inr ⟨y, by simp [hy], e⟩)
    refine ⟨r, H1 ++ R, v, ⟨H1, hq, rfl⟩, rfl, hdv.weak fun k hk => (hVF H1 k).2 hk, ⟨fun x hx => ?_, List.pairwise_append.2 ⟨hok.apart, hap.2.1, fun x hx y hy k hk e => (hok.lt x hx k hk).2 (.inr ⟨y, hy, e⟩)⟩, fun x hx k hk => ?_⟩, ?_, fun x hx k hk => ?_⟩
    · rcases List.mem_append.1 hx with hx | hx
      · exact (hok.ok x hx).weak fun k hk => (hVF H1 k).2 hk
      · exact (hH.ok x (by simp [hx])).conv hF hw hfr.size fun k hk => hfr.block k (hH.lt x (by simp [hx]) k hk).1 fun ⟨y, hy, e⟩ => hap.2.2 y hy x hx k e hk
    · rcases List.mem_append.1 hx with hx | hx
      · exact ⟨(hok.lt x hx k hk).1, fun hv => (hok.lt x hx k hk).2 (.inl hv)⟩
      · exact ⟨Nat.lt_of_lt_of_le (hH.lt x (by simp [hx]) k hk).1 hfr.size, (hH.lt x (by simp [hx]) k hk).2⟩
    · exact ⟨hfr.os, hfr.tape, hfr.output, hfr.size, fun k hk hn => hfr.block k hk fun ⟨y, hy, e⟩ => hn ⟨y, by simp [hy], e⟩⟩
    · rcases List.mem_append.1 hx with hx | hx
      · rcases hown x hx k hk with ⟨y, hy, e⟩ | h
        · exact .inl ⟨y, by simp [hy], e⟩
        · exact .inr h
      · exact .inl ⟨x, by simp [hx], hk⟩
end
end Go.Proofs.YtkhhlmonhapmaaaGreatDoor
