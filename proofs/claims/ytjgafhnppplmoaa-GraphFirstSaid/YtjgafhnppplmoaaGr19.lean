/- The graph: how a law is entered; frozen results. -/
import Derived.Test.YtjgafhnppplmoaaGr16
import Derived.Test.YtjgafhnppplmoaaFrame
namespace Go.Proofs.Ytjgafhnppplmoaa
open Go.RowKit
set_option linter.unusedSimpArgs false
set_option linter.unusedVariables false
section
variable {P : Program} {f : FuncId} {H : List Hp} {args : List AV}
/-- A contract of which less is said. -/
theorem Spec.weak {Q Q2 : AV → List Hp → Prop} (h : Spec P f H args Q) (hq : ∀ r H', Q r H' → ∃ r2 H2, Weak H' [r] H2 [r2] ∧ Q2 r2 H2) : Spec P f H args Q2 := fun V w vs h1 h2 h3 =>
  (h V w vs h1 h2 h3).mono fun e w' ⟨r, H', v, q, he, hd, hok, hfr, hown⟩ => by
    obtain ⟨r2, H2, hw, q2⟩ := hq r H' q
    obtain ⟨k1, k2, k3⟩ := forgetL (vs := [v]) hok (by rw [DenL]; exact ⟨v, [], rfl, hd, by rw [DenL]⟩) hw
    have k2' := k2.get' 0 r2 v rfl rfl
    exact ⟨r2, H2, v, q2, he, k2', k1, hfr, fun x hx k hk => by
      obtain ⟨y, hy, e⟩ := k3 x hx k hk
      exact hown y hy k e⟩
/-- A law's walk, out of its contract. -/
theorem law_walk (h : Spec P f [] args (fun r H' => r = .x (.bool true) ∧ H' = [])) (W : World) (vs : Array Value) (hd : DenL (fun _ => False) W args vs.toList) : Calls P f vs W fun e w' => e = .returned (.bool true) ∧ Ext W w' := by
  have := h (fun _ => False) W vs.toList (fun _ h => h.elim) ⟨by simp, List.Pairwise.nil, by simp⟩ (hd.weak fun k hk => by rcases hk with hk | ⟨x, hx, _⟩; exact hk; cases hx)
  refine this.mono fun e w' ⟨r, H', v, ⟨hr, _⟩, he, hdv, _, hfr, _⟩ => ?_
  subst hr
  rw [Den] at hdv
  subst hdv
  refine ⟨he, Fr.ext ⟨hfr.os, hfr.tape, hfr.output, hfr.size, fun k hk hn => hfr.block k hk fun ⟨x, hx, _⟩ => by cases hx⟩⟩
end
theorem Is.den {W : World} {v : Value} {l : List Int} (h : Is 0 W v l) : Den (fun _ => False) W (.sq l.length (ia l)) v := by
  obtain ⟨ad, cap, rfl, h1, h2, h3, h4⟩ := Sl.split h
  rw [Den]
  refine ⟨ad, cap, l.map (.int .i64), rfl, h1, h2, h3, ?_, ?_⟩
  · rcases h4 with h4 | ⟨b, o, rfl, _, hc⟩
    · exact .inl h4
    · refine .inr ⟨b, o, rfl, fun h => h, fun j u hj => ⟨hc j u hj, ?_⟩⟩
      obtain ⟨n, -, rfl⟩ := List.mem_map.1 (List.mem_of_getElem? hj)
      rfl
  · have : ia l = (l.map (Value.int .i64)).map AV.x := by simp [ia]
    rw [this]; exact DenL.exact
theorem DenL.cons' {F : Nat → Prop} {W : World} {a : AV} {l : List AV} {v : Value} {vs : List Value} (h : Den F W a v) (k : DenL F W l vs) : DenL F W (a :: l) (v :: vs) := by rw [DenL]; exact ⟨v, vs, rfl, h, k⟩
theorem DenL.nil' {F : Nat → Prop} {W : World} : DenL F W [] [] := by rw [DenL]
theorem den_x {F : Nat → Prop} {W : World} (v : Value) : Den F W (.x v) v := by rw [Den]
theorem bs_of_data (s : ByteArray) : bs s.data.toList = s := by cases s; simp [bs]
theorem den_int {F : Nat → Prop} {W : World} (a : Int) : Den F W (.x (.int .i64 a)) (.int .i64 a) := den_x _
theorem den_str {F : Nat → Prop} {W : World} (s : ByteArray) : Den F W (.x (.string (bs s.data.toList))) (.string s) := by rw [bs_of_data]; exact den_x _
theorem row_frozen {l : List Int} (r : AV) (H' : List Hp) (h : RowIs l r H') : ∃ r2 H2, Weak H' [r] H2 [r2] ∧ (r2 = .sq l.length (ia l) ∧ H2 = []) := by
  obtain ⟨ad, cap, rfl, rfl⟩ := h
  exact ⟨_, _, Weak.mk' [_] [] (List.Perm.refl _) VwHs.nil (VwL.cons (Vw.row (List.Mem.head _) (VwL.refl _ _)) VwL.nil), rfl, rfl⟩
theorem orderF (l : List JA) (hl : l.length ≤ 1000000) (hm : Hid (∀ j ∈ l, j.needs.length ≤ 2)) : Spec Try.prog 13 [] [.sq l.length (ja l)] (fun r H' => r = .sq (ord l).length (ia (ord l)) ∧ H' = []) :=
  (gorder_spec l hl fun j hj => by have := hm.out j hj; omega).weak row_frozen
theorem cycleF (l : List JA) (hl : l.length ≤ 1000000) (hm : Hid (∀ j ∈ l, j.needs.length ≤ 2)) : Spec Try.prog 15 [] [.sq l.length (ja l)] (fun r H' => r = .sq (cyc l).length (ia (cyc l)) ∧ H' = []) :=
  (cycle_spec l hl fun j hj => by have := hm.out j hj; omega).weak row_frozen
theorem wildF (l : List Int) (hl : l.length ≤ 140737488355328) (hI : Hid (I64 l)) : Spec Try.prog 9 [] [.sq l.length (ia l)] (fun r H' => ∃ x : List JA, r = .sq x.length (ja x) ∧ H' = [] ∧ x.length ≤ 6 ∧ Hid (∀ j ∈ x, j.needs.length ≤ 2)) :=
  (wild_spec l hl hI.out).mono fun r H' ⟨x, h1, h2, h3, h4⟩ => ⟨x, h1, h2, h3, Lib.hid h4⟩
theorem has_take (o : List Int) (k : Nat) (n : Int) (hk : k ≤ o.length) (ho : o.length ≤ 1000000) : Spec Try.prog 18 [] [.sq k (ia (o.take k)), .x (.int .i64 n)] (fun r H' => r = .x (.bool (decide (n ∈ o.take k))) ∧ H' = []) := by
  have := has_spec (o.take k) n (by simp; omega)
  rwa [List.length_take, Nat.min_eq_left hk] at this
theorem needsF (l : List JA) (i : Int) (hl : l.length ≤ 1000000) (hm : Hid (∀ j ∈ l, j.needs.length ≤ 2)) : Spec Try.prog 17 [] [.sq l.length (ja l), .x (.int .i64 i)] (fun r H' => r = .sq (nds l i).length (ia (nds l i)) ∧ H' = []) :=
  needs_spec l i hl fun j hj => by have := hm.out j hj; omega
end Go.Proofs.Ytjgafhnppplmoaa
