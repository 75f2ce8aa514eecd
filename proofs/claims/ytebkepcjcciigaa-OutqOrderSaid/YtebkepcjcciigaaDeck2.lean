/- The deck of jobmuxmill: New, Few, Range, Output. -/
import Derived.Test.YtebkepcjcciigaaDeck
import Derived.Test.YtebkepcjcciigaaMore
namespace Go.Proofs.Ytebkepcjcciigaa
open Go.RowKit
set_option linter.unusedSimpArgs false
set_option linter.unusedVariables false
set_option maxRecDepth 100000 in
set_option maxHeartbeats 800000 in
theorem few_any (lo : Nat) (v : Value) (l : List Int) (w : World) (hv : Is lo w v l) : Calls Try.prog 7 #[v] w fun e w' => e = .returned (.bool (decide (l.length ≤ 200))) ∧ w' = w := by
  obtain ⟨ad, cap, rfl, _⟩ := hv.shape
  go_enter Try.func7, Try.ntmps7
  go_wp2_with fail
  go_ret
  exact ⟨by simp [Act.put]; omega, rfl⟩
set_option maxRecDepth 100000 in
set_option maxHeartbeats 800000 in
theorem new_any (lo : Nat) (v : Value) (l : List Int) (w : World) (hv : Is lo w v l) (hi : I64s l) (hl : l.length ≤ 1000000) : Calls Try.prog 8 #[v] w fun e w' =>
    e = .returned (.pointer (some ⟨w.heap.size, 0, none⟩)) ∧ Dk w w' w.heap.size l ∧ w'.heap.size = w.heap.size + 1 := by
  obtain ⟨ad, cap, rfl, h2⟩ := hv.shape
  go_enter Try.func8, Try.ntmps8
  go_wp2_with fail
  go_ret
  refine ⟨rfl, ⟨_, l, 0, hv.weak (Nat.zero_le _), hi, hl, (Ext.al _ _), Nat.le_refl _, ?_, ?_, ?_, Nat.zero_le _, rfl⟩, by simp⟩
  · simp
  · simp
  · intro o; simp
set_option maxRecDepth 100000 in
set_option maxHeartbeats 800000 in
theorem output_any (w0 : World) (b : Nat) (r : List Int) (w : World) (hd : Dk w0 w b r) : Calls Try.prog 13 #[.pointer (some ⟨b, 0, none⟩)] w fun e w' =>
    ∃ v l, e = .returned v ∧ Bs w.heap.size w' v l ∧ (1 ≤ l.length ∧ l.length ≤ 12) ∧ Dk w0 w' b r.tail ∧ Dx b w w' := by
  have hlt := hd.lt
  have hn := nx_bd r 12 (by decide)
  go_enter Try.func13, Try.ntmps13
  go_wp2_with fail
  refine Calls.mono (next_any w0 b r 12 _ (hd.mono (Ext.al _ _)) (by decide) (by decide)) ?_
  rintro e w1 ⟨rfl, hd1, hx⟩
  obtain ⟨v, t, d, rfl⟩ := hx
  obtain ⟨k, hk⟩ : ∃ k : Nat, nx r 12 = k := ⟨(nx r 12).toNat, by omega⟩
  rw [hk] at hn ⊢
  have hc : k = 0 ∨ k = 1 ∨ k = 2 ∨ k = 3 ∨ k = 4 ∨ k = 5 ∨ k = 6 ∨ k = 7 ∨ k = 8 ∨ k = 9 ∨ k = 10 ∨ k = 11 := by omega
  clear hk hn
  rw [World.setCell_alloc_past _ b 1 v hlt] at hd1
  have hD := Lib.hid hd1
  clear hd hd1
  have hB : ∀ (T : Obj) (s : ByteArray) (n : Nat), n = s.size → 1 ≤ s.size ∧ s.size ≤ 12 → Dk w0 (((w.setCell ⟨b, 1, none⟩ v).alloc T).ext t d) b r.tail →
      ∃ v' l', Ending.returned (Value.slice (some ⟨w.heap.size + 1 + t.size, 0, none⟩) n (grownCap (((w.setCell ⟨b, 1, none⟩ v).alloc T).ext t d) n 0 5)) = Ending.returned v' ∧ Bs w.heap.size (((w.setCell ⟨b, 1, none⟩ v).alloc T).ext (t ++ #[strObj (((w.setCell ⟨b, 1, none⟩ v).alloc T).ext t d) 5 s]) (d + 1)) v' l' ∧ (1 ≤ l'.length ∧ l'.length ≤ 12) ∧
        Dk w0 (((w.setCell ⟨b, 1, none⟩ v).alloc T).ext (t ++ #[strObj (((w.setCell ⟨b, 1, none⟩ v).alloc T).ext t d) 5 s]) (d + 1)) b r.tail ∧ Dx b w (((w.setCell ⟨b, 1, none⟩ v).alloc T).ext (t ++ #[strObj (((w.setCell ⟨b, 1, none⟩ v).alloc T).ext t d) 5 s]) (d + 1)) := by
    intro T s n hn hs hk
    have h1 := bs_conv (((w.setCell ⟨b, 1, none⟩ v).alloc T).ext t d) w.heap.size (w.heap.size + 1 + t.size) n 5 s _ (by simp) hn rfl (by omega) (by simp; omega)
    have h2 := Ext.app ((w.setCell ⟨b, 1, none⟩ v).alloc T) t #[strObj (((w.setCell ⟨b, 1, none⟩ v).alloc T).ext t d) 5 s] d (d + 1)
    rw [ext_ext] at h1
    refine ⟨_, _, rfl, h1, ?_, hk.mono h2, ?_⟩
    · rw [Array.length_toList]; exact hs
    · exact Dx.ext ⟨v, #[], _, ext_zero _⟩ (Ext.tr (Ext.al _ _) (Ext.ext _ _ _))
  have hS := Lib.hid hB
  clear hB
  rcases hc with rfl | rfl | rfl | rfl | rfl | rfl | rfl | rfl | rfl | rfl | rfl | rfl
  all_goals
    go_wp2_with fail
    go_ret
    refine hS.out _ _ _ ?_ ?_ hD.out
    · rfl
    · decide
end Go.Proofs.Ytebkepcjcciigaa
