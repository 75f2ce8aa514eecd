/- Layer 29: the sanity check, and the law OutqMoves. -/
import Derived.Test.YtebkepcjcciigaaQueue
import Derived.Test.YtebkepcjcciigaaMod
namespace Go.Proofs.Ytebkepcjcciigaa
open Go.RowKit
set_option linter.unusedSimpArgs false
set_option linter.unusedVariables false
theorem IsQ.fields {lo : Nat} {w : World} {v : Value} {q : Qu} (h : IsQ lo w v q) : ∃ ad cap, v = .agg #[.int .i64 q.lim, .slice ad q.data.length cap, .int .i64 q.rs] ∧ Bs lo w (.slice ad q.data.length cap) q.data := by
  obtain ⟨dv, rfl, h0⟩ := h
  obtain ⟨ad, cap, rfl, _⟩ := h0.shape
  exact ⟨ad, cap, rfl, h0⟩
theorem IsQ.mk (lo : Nat) (w : World) (a b : Int) (v : Value) (l : List UInt8) (h : Bs lo w v l) : IsQ lo w (.agg #[.int .i64 a, v, .int .i64 b]) ⟨a, l, b⟩ := ⟨v, rfl, h⟩
set_option maxRecDepth 100000 in
set_option maxHeartbeats 800000 in
theorem sane29 (w : World) : Calls Try.prog 6 #[] w fun e w' => e = .returned (.bool true) ∧ Ext w w' := by
  go_enter Try.func6, Try.ntmps6
  go_wp2_with fail
  refine Calls.mono (push_any 0 ⟨3, [], 0⟩ _ _ _ [97, 98] [] _ ⟨_, rfl, Bs.nil _ _⟩ (Bs.block _ _ _ _ _ _ _ _ [97, 98] rfl (Nat.zero_le _) rfl rfl (Nat.le_refl _) (by decide)) (Bs.nil _ _) (by decide) (by decide)) ?_
  rintro e w1 ⟨v', rfl, hq, hb⟩
  rw [show Qu.push ⟨3, [], 0⟩ [97, 98] [] = ⟨3, [97, 98], 0⟩ from by simp [Qu.push]] at hq
  obtain ⟨a1, p1, rfl, h1⟩ := hq.fields
  clear hq
  go_wp2_with fail
  refine Calls.mono (push_any 0 ⟨3, [97, 98], 0⟩ _ _ _ [99, 100] [120, 121, 122, 49] _ ⟨_, rfl, (h1.weak (Nat.zero_le _)).mono (by repeat (first | (with_reducible exact Below.refl _ _) | (with_reducible assumption) | (with_reducible refine Below.ext ?_ (by first | omega | (simp; done) | (simp; omega)) _ _) | (with_reducible refine Below.alloc ?_ (by first | omega | (simp; done) | (simp; omega)) _) | (with_reducible refine Below.setCell ?_ (by first | omega | (simp; done) | (simp; omega)) _) | (with_reducible refine Below.drew ?_) | (with_reducible refine Below.drewN ?_ _)))⟩ ((Bs.block _ _ _ _ _ _ _ _ [99, 100] (by simp) (Nat.zero_le _) rfl rfl (Nat.le_refl _) (by decide)).mono (Ext.al _ _)) (Bs.block _ _ _ _ _ _ _ _ [120, 121, 122, 49] (by simp) (Nat.zero_le _) rfl rfl (Nat.le_refl _) (by decide)) (by decide) (by decide)) ?_
  rintro e w2 ⟨v', rfl, hq, hb2⟩
  rw [show Qu.push ⟨3, [97, 98], 0⟩ [99, 100] [120, 121, 122, 49] = ⟨3, [120, 121, 122, 49], 1⟩ from by simp [Qu.push, wrap64]] at hq
  obtain ⟨a2, p2, rfl, h2⟩ := hq.fields
  clear hq
  obtain ⟨t, d, rfl⟩ := hb2.form
  have cv : ∀ (W' : World) (d' : Nat), W'.heap.size = w1.heap.size + 1 + 1 + 1 → (convert 28 9 (.slice a2 4 p2)).run Try.prog (W'.ext t d') = .ok (.string (bs [120, 121, 122, 49])) (W'.ext t d') := fun W' d' hs => run_string_bs _ _ _ _ _ _ _ Try.underlying28 Try.underlying5 Try.underlying9 (h2.tail (by simpa using hs) (Nat.le_refl _))
  go_wp2_with fail
  go_ret
  exact ⟨by simp, (show Ext w w1 from (Ext.al _ _).tr hb).tr (by repeat (first | (with_reducible exact Below.refl _ _) | (with_reducible assumption) | (with_reducible refine Below.ext ?_ (by first | omega | (simp; done) | (simp; omega)) _ _) | (with_reducible refine Below.alloc ?_ (by first | omega | (simp; done) | (simp; omega)) _) | (with_reducible refine Below.setCell ?_ (by first | omega | (simp; done) | (simp; omega)) _) | (with_reducible refine Below.drew ?_) | (with_reducible refine Below.drewN ?_ _)))⟩

end Go.Proofs.Ytebkepcjcciigaa
