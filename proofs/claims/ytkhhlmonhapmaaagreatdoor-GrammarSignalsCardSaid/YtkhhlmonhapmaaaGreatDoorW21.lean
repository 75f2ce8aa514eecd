import Derived.Test.YtkhhlmonhapmaaaGreatDoorW12
/- A walk over symbolic memory: a call that is lent rows beside blocks that are handed to it. No program in sight. -/
namespace Go.Proofs.YtkhhlmonhapmaaaGreatDoor
open Go.RowKit
set_option linter.unusedSimpArgs false
set_option linter.unusedVariables false
section
variable {P : Program} {Δ : List Deferred} {V O : Nat → Prop} {w0 w w' : World} {B H H' D : List Hp} {T T' : List AV} {a a' : Act} {o : Oper} {K : List AV → List Hp → Prop}
/-- All that is known of the block is exact. -/
def isX : AV → Bool | .x _ => true | _ => false
def Hp.exb : Hp → Bool | .box _ cells => cells.all isX | .row _ _ _ _ _ cells => cells.all isX
theorem DenL.exX {F F' : Nat → Prop} {l : List AV} {vs : List Value} (h : DenL F w l vs) (hx : l.all isX = true) : DenL F' w l vs := DenL.of h.len fun j av u h1 h2 => by
  have := h.get' j av u h1 h2
  have hxa := List.all_eq_true.1 hx av (List.mem_of_getElem? h1)
  cases av with
  | x v => rw [Den] at this ⊢; exact this
  | _ => cases hxa
theorem HpOk.exX {F F' : Nat → Prop} : ∀ {h : Hp}, h.exb = true → HpOk F w h → HpOk F' w h
  | .box .., hx, ⟨vals, h1, h2⟩ => ⟨vals, h1.exX hx, h2⟩
  | .row .., hx, ⟨vals, h1, h2⟩ => ⟨vals, h1.exX hx, h2⟩
/-- A call that is handed the blocks H1, and lent the rows and boxes of R; what it gives back is exact. -/
theorem Stp_callX {c : Operand} {args : Array Operand} {tys : Array TypeId} {fs cs : Array Value} (f : FuncId) (fn : Func) (H1 R : List Hp) (avs : List AV) (Qf : AV → List Hp → Prop) (ho : o.op = .call { callee := .value c, args := args, argTypes := tys }) (hc : ev T c = .x (.func (.func f) fs cs))
    (hf : P.funcs[f]? = some fn) (hn : fn.name ≠ "runtime.NumGoroutine") (hb : fn.body.isSome = true) (hp : H.Perm (H1 ++ R)) (hargs : VwL R (fs.toList.map .x ++ args.toList.map (ev T) ++ cs.toList.map .x) avs) (hS : Spec P f H1 avs Qf) (hex : ∀ r H', Qf r H' → isX r = true ∧ ∀ h ∈ H', h.exb = true)
    (hK : ∀ r H', Qf r H' → K (putT T o.dst r) (H' ++ R)) : Stp P o T H K := by
  intro Δ V O w0 a w Kc Qc r hKc
  have r1 := r.perm hp
  have hap := List.pairwise_append.1 r1.hok.apart
  have hsub : ∀ k, FB V H1 k → FB V (H1 ++ R) k := fun k hk => hk.imp id fun ⟨x, hx, e⟩ => ⟨x, by simp [hx], e⟩
  have hV : ∀ k, V k → k < w.heap.size := fun k hk => Nat.lt_of_lt_of_le (r.vlt k hk) r.fr.size
  have hH1 : HOk V w H1 := ⟨fun x hx => (r1.hok.ok x (by simp [hx])).weak hsub, hap.1, fun x hx k hk => r1.hok.lt x (by simp [hx]) k hk⟩
  have hd : DenL (FB V H1) w avs (fs.toList ++ args.toList.map a.eval ++ cs.toList) := hargs.den hsub (fun h hh => ⟨r1.hok.ok h (by simp [hh]), fun k e hk => by
    rcases hk with hk | ⟨x, hx, e'⟩
    · exact (r1.hok.lt h (by simp [hh]) k e).2 hk
    · exact hap.2.2 x hx h hh k e' e⟩) _ ((DenL.exact.app (denL_map r1 args.toList)).app DenL.exact)
  refine wp_call_of ho (r.evx hc) hf hn hb (vs := (fs.toList ++ args.toList.map a.eval ++ cs.toList).toArray) (by apply Array.toList_inj.1; simp) ?_
  refine (hS V w _ hV hH1 hd (r1.gb.mono fun k ⟨x, hx, e⟩ => ⟨x, by simp [hx], e⟩)).mono ?_
  rintro e w' ⟨res, H', v, hq, rfl, hdv, hok', hfr, hown⟩
  obtain ⟨hrx, hhx⟩ := hex res H' hq
  have hok2 : HOk (FB V R) w' H' := ⟨fun x hx => (hok'.ok x hx).exX (hhx x hx), hok'.apart, fun x hx k hk => ⟨(hok'.lt x hx k hk).1, fun hv => by
    rcases hv with hv | ⟨y, hy, e⟩
    · exact (hok'.lt x hx k hk).2 hv
    · rcases hown x hx k hk with ⟨z, hz, e'⟩ | h
      · exact hap.2.2 z hz y hy k e' e
      · have := (r1.hok.lt y (by simp [hy]) k e).1; omega⟩⟩
  refine ⟨v, rfl, hKc _ _ _ _ (hK res H' hq) ((r1.called hok2 hfr hown).1.put _ ?_)⟩
  cases res with
  | x u => rw [Den] at hdv ⊢; exact hdv
  | _ => cases hrx
end
end Go.Proofs.YtkhhlmonhapmaaaGreatDoor
