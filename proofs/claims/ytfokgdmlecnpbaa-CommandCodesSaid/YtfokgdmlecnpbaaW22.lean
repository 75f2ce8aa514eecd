import Derived.Test.YtfokgdmlecnpbaaW16
/- A walk over symbolic memory: in a region that draws its order, loads out of memory that is not the call's own may be taken first, whatever writes own memory. No program in sight. -/
namespace Go.Proofs.Ytfokgdmlecnpbaa
open Go.RowKit
set_option linter.unusedSimpArgs false
set_option linter.unusedVariables false
section
variable {P : Program} {V O : Nat → Prop} {w0 w w' : World} {B H H' R : List Hp} {T T' : List AV} {a a' : Act} {o : Oper} {ops : Array Oper} {Q : Post} {listed : Array Bool} {fuel : Nat}
/-- All that is not in R is as it was in wr. -/
def SameF (wr : World) (R : List Hp) (w : World) : Prop := ∀ k, k < wr.heap.size → ¬ blks R k → w.heap[k]? = wr.heap[k]?
/-- The rest of a region that draws its order; nothing has been turned yet. -/
def awpF (P : Program) (ops : Array Oper) (Q : Post) (fuel : Nat) (listed : Array Bool) (T : List AV) (H : List Hp) : Prop :=
  ∀ V O w0 a w, Rel V O w0 H T a w → wpAnyP P .any ops (lift V O w0 Q) [] (SameF w H) fuel listed a w
/-- And when something has; R: what was own memory at its beginning. -/
def awpG (P : Program) (ops : Array Oper) (Q : Post) (R : List Hp) (fuel : Nat) (listed : Array Bool) (T : List AV) (H : List Hp) : Prop :=
  ∀ V O w0 wr a w, Rel V O w0 H T a w → SameF wr R w → wr.heap.size ≤ w.heap.size → (∀ h ∈ H, ∀ k, h.blk = some k → blks R k ∨ wr.heap.size ≤ k) → wpAnyP P .any ops (lift V O w0 Q) [] (SameF wr R) fuel listed a w
theorem awpF_drawn {id : Nat} {l : List Oper} (hm : P.follows .mixedOrders = true) (h : awpF P l.toArray Q l.length (Array.replicate l.length false) T H) : awp P (.region id l.toArray true) Q T H :=
  awp_drawnA hm fun V O w0 a w r => (h V O w0 a w r).any
theorem awpF_cong {T' : List AV} {H' : List Hp} (hT : T = T') (hH : H = H') (h : awpF P ops Q fuel listed T' H') : awpF P ops Q fuel listed T H := hT ▸ hH ▸ h
theorem awpG_cong {T' : List AV} {H' : List Hp} (hT : T = T') (hH : H = H') (h : awpG P ops Q R fuel listed T' H') : awpG P ops Q R fuel listed T H := hT ▸ hH ▸ h
theorem awpF_yield (i : Nat) {o : Oper} {l : List Oper} (hi : nthO l i = some o) (hg : o.guard = none) (hc : takeOk l.toArray listed i = true) (hpan : ∀ c T H, ¬ Q (.panic c) T H) (av : AV)
    (h : ∀ V a w, OK V H (ev T) o a w → ∃ v, (∀ w', SameF w H w' → (execOp a.eval o).run P w' = .ok (.value v) w') ∧ Den (FB V H) w av v) (hK : awpF P l.toArray Q fuel (listed.setIfInBounds i true) (putT T o.dst av) H) : awpF P l.toArray Q (fuel + 1) listed T H := by
  have hi : l.toArray[i]? = some o := by rw [List.getElem?_toArray, ← nthO_eq]; exact hi
  intro V O w0 a w r
  obtain ⟨v, hv, hd⟩ := h V a w (r.oks o)
  unfold takeOk at hc
  simp only [Bool.and_eq_true] at hc
  exact wpAnyP.first hi hc.1.1 (fun c a w ⟨T, H, _, hq⟩ => absurd hq (hpan c T H)) (fun j o hj => by simp at hj) (Region.free_spec hi hc.1.2) (by simpa using hc.2) (.inl ⟨by simp [Region.wanted, hg], hv⟩) (fun _ _ _ => rfl) (hK V O w0 _ w (r.put _ hd))
theorem awpF_take (i : Nat) {o : Oper} {l : List Oper} (hi : nthO l i = some o) (hg : o.guard = none) (hc : takeOk l.toArray listed i = true) (hpan : ∀ c T H, ¬ Q (.panic c) T H) (av : AV) (h : WInd P o (ev T) H av) (hK : awpF P l.toArray Q fuel (listed.setIfInBounds i true) (putT T o.dst av) H) : awpF P l.toArray Q (fuel + 1) listed T H :=
  awpF_yield i hi hg hc hpan av (fun V a w ok => by obtain ⟨v, hv, hd⟩ := h V a w ok; exact ⟨v, fun w' _ => hv w', hd⟩) hK
/-- A load out of memory that is only read. -/
theorem awpF_load_at (i : Nat) {o : Oper} {l : List Oper} (hi : nthO l i = some o) (hg : o.guard = none) (hc : takeOk l.toArray listed i = true) (hpan : ∀ c T H, ¬ Q (.panic c) T H) (t : TypeId) (x : Operand) (cells : List AV) (agg : Bool) (n : Nat)
    (ho : o.op = .load t x) (hx : ev T x = .at_ cells) (ht : aggT P t = some (agg, n)) (hn : n ≤ cells.length) (hn0 : 0 < cells.length)
    (hK : awpF P l.toArray Q fuel (listed.setIfInBounds i true) (putT T o.dst (ldA agg n cells)) H) : awpF P l.toArray Q (fuel + 1) listed T H :=
  awpF_yield i hi hg hc hpan _ (fun V a w ok => by
    have hd := ok.ops x (by simp [ho, Op.operands])
    rw [hx, Den] at hd
    obtain ⟨b, off, vals, hv, hm, hl⟩ := hd
    rcases hm with rfl | ⟨b', o', e, hb, hcl⟩
    · have := hl.len; simp at this; omega
    · cases e
      obtain ⟨v, hr, hdv⟩ := run_loadVar_vals (P := P) t agg n ht w _ b off cells vals hl hn (fun _ => hn0)
      refine ⟨v, fun w' hS => ?_, hdv⟩
      have := hr w' fun j u hj => by
        have hu := (hcl j u hj).1
        have hlt : b < w.heap.size := World.block_lt_of_cell? w _ hu
        rw [World.cell?_of_block (a := ⟨b, off + j, none⟩) (hS b hlt fun ⟨y, hy, e⟩ => hb (.inr ⟨y, hy, e⟩))]; exact hu
      simp [execOp, ho, hv, Instr.loadAt, Instr.sureAddr, this]) hK
theorem awpF_go {l : List Oper} (h : awpG P l.toArray Q H fuel listed T H) : awpF P l.toArray Q fuel listed T H := fun V O w0 a w r =>
  h V O w0 w a w r (fun _ _ _ => rfl) (Nat.le_refl _) fun x hx k hk => .inl ⟨x, hx, hk⟩
theorem awpG_done (hr : Region.ready .any ops listed = []) (h : Q .normal T H) : awpG P ops Q R fuel listed T H := fun V O w0 wr a w r _ _ _ => by
  cases fuel with
  | zero => exact ⟨hr, ⟨T, H, r, h⟩⟩
  | succ n => exact ⟨fun _ => ⟨T, H, r, h⟩, fun j hj => by rw [hr] at hj; cases hj⟩
theorem wpOp_of_stpG {j : Nat} (hi : ops[j]? = some o) (hg : o.guard = none) (h : Stp P o T H (awpG P ops Q R fuel (listed.setIfInBounds j true))) (V O : Nat → Prop) (w0 wr : World) (r : Rel V O w0 H T a w) (hS : SameF wr R w) (hz : wr.heap.size ≤ w.heap.size) (hown : ∀ h ∈ H, ∀ k, h.blk = some k → blks R k ∨ wr.heap.size ≤ k) :
    wpOp P ops (lift V O w0 Q) j (fun a' w' => (([] : List Nat).contains j = false → SameF wr R w → SameF wr R w') ∧ wpAnyP P .any ops (lift V O w0 Q) [] (SameF wr R) fuel (listed.setIfInBounds j true) a' w') a w := by
  unfold wpOp
  simp only [hi]
  rw [if_pos (by simp [Region.wanted, hg])]
  have r0 : Rel V O w0 ([] ++ H) T a w := r
  refine .inl (h _ _ _ a w _ _ r0.aside fun T' H' a' w' hk hr => ?_)
  obtain ⟨r', _⟩ := r0.rejoin hr
  have hS' : SameF wr R w' := fun k hk hn => by
    refine (hr.fr.block k (Nat.lt_of_lt_of_le hk hz) fun ⟨y, hy, e⟩ => ?_).trans (hS k hk hn)
    rcases hown y hy k e with h1 | h1
    · exact hn h1
    · omega
  refine ⟨fun _ _ => hS', hk V O w0 wr a' w' r' hS' (Nat.le_trans hz hr.fr.size) fun x hx k e => ?_⟩
  rcases hr.own x hx k e with ⟨y, hy, e'⟩ | h1
  · exact hown y hy k e'
  · exact .inr (Nat.le_trans hz h1)
theorem awpG_1 (i : Nat) {o : Oper} {l : List Oper} (hr : Region.ready .any l.toArray listed = [i]) (hi : nthO l i = some o) (hg : o.guard = none) (h : Stp P o T H (awpG P l.toArray Q R fuel (listed.setIfInBounds i true))) : awpG P l.toArray Q R (fuel + 1) listed T H := fun V O w0 wr a w r hS hz hown =>
  ⟨fun h0 => (by rw [hr] at h0; cases h0), fun j hj => by
    rw [hr, List.mem_singleton] at hj; subst hj
    exact wpOp_of_stpG (by rw [List.getElem?_toArray, ← nthO_eq]; exact hi) hg h V O w0 wr r hS hz hown⟩
end
end Go.Proofs.Ytfokgdmlecnpbaa
