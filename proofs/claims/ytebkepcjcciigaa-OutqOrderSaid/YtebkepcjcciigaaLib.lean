/- bytes.Clone, slices.Grow of nil, slices.Concat of two: what they return, and that they write nothing that was there. -/
import Derived.Test.YtebkepcjcciigaaRows
import Derived.Test.YtebkepcjcciigaaBase
import Derived.Lib.AppendZeros
namespace Go.Proofs.Ytebkepcjcciigaa
open Go.RowKit
set_option linter.unusedSimpArgs false
set_option linter.unusedVariables false
theorem elB : ElemAt Try.prog 28 5 (.int .u8 0) 1 1 := ⟨Try.underlying28, by kernel_rfl, rfl, by decide⟩

set_option maxRecDepth 100000 in
set_option maxHeartbeats 800000 in
theorem clone_any (lo : Nat) (v : Value) (l : List UInt8) (w : World) (hv : Bs lo w v l) (hf : Fits l.length 1) :
    Calls Try.prog 22 #[v] w fun e w' => ∃ v', e = .returned v' ∧ Bs w.heap.size w' v' l ∧ Ext w w' := by
  have hvs := hv
  obtain ⟨ad, cap, rfl, h1, h2, h3, h4⟩ := hv
  have e0 : (w.alloc (.cells #[] 5)).ownsRow w.heap.size 5 1 (.slice (some ⟨w.heap.size, 0, none⟩) 0 0) 0 [] := World.ownsRow_lit w #[] 0 (Nat.le_refl _) (Nat.zero_le _) rfl
  have hvs' := Lib.hid (hvs.mono (Ext.al w (.cells #[] 5)))
  clear hvs h2
  cases ad with
  | none =>
    obtain rfl := h3 rfl
    have : l = [] := List.eq_nil_of_length_eq_zero (by omega)
    subst this
    go_enter Try.func22, Try.ntmps22
    go_wp2
    go_ret
    exact ⟨_, rfl, Bs.nil _ _, Below.refl _ _⟩
  | some x =>
    go_enter Try.func22, Try.ntmps22
    go_wp2_with (at_builtin; refine wpList_append_sl _ rfl _ _ 28 rfl w.heap.size 5 (.int .u8 0) 1 1 elB _ _ _ rfl e0 lo _ _ (u8s l) rfl hvs'.out (by simp [u8s]) (u8s_one l) (by simpa using hf) (by simp) ?_)
    intro v' w1 hown hgr hbel _
    go_wp2
    go_ret
    exact ⟨_, rfl, by simpa [Bs] using Sl.own hown, (Ext.al _ _).trans hbel⟩

theorem info8 : (Try.prog.info? 5).map (fun i => (i.zero, i.size, i.bytes)) = some (some (.int .u8 0), 1, 1) := by kernel_rfl
set_option maxRecDepth 100000 in
set_option maxHeartbeats 800000 in
theorem grow_nil (m : Int) (n : Nat) (w : World) (hm : m = n) (hn : n ≤ 10000000) :
    Calls Try.prog 29 #[.slice none 0 0, .int .i64 m] w fun e w' => ∃ v', e = .returned v' ∧ w'.ownsRow w.heap.size 5 1 v' 0 [] ∧ Ext w w' := by
  subst hm
  by_cases h0 : n = 0
  · subst h0
    go_enter Try.func29, Try.ntmps29
    go_wp2
    go_ret
    exact ⟨_, rfl, World.ownsRow_nil _ _ _ _, Below.refl _ _⟩
  · obtain ⟨i0, hi, hz0, hz1, hz2⟩ := info_parts info8
    have hr := Lib.run_append_nil_zeros (P := Try.prog) w 28 3 28 5 i0 (.int .u8 0) .i64 .i64 Try.underlying28 Try.underlying3 hi hz0 n (by omega) (by omega) (by omega) (by rw [hz2]; omega)
    have hR := Lib.hid hr
    have hpos : (0:Int) < n := by omega
    have hg := grownCap_ge w n 0 5
    have hg2 := grownCap_le_maxLen w n 0 5 (fits n 1 hn (by decide)).2
    have hg2' := Lib.hid hg2
    clear hr hg2 h0
    go_enter Try.func29, Try.ntmps29
    go_wp2_with (at_builtin; refine Lib.wpList_append_run _ rfl _ _ 28 3 rfl _ _ rfl rfl _ _ hR.out ?_)
    go_wp2
    go_ret
    refine ⟨_, rfl, ?_, ((Ext.al _ _).drew)⟩
    exact (World.ownsRow_made w _ (grownCap w n 0 5) (Nat.le_refl _) hg2'.out (by simp [size_zeroCells]; omega)).drew

set_option maxRecDepth 100000 in
set_option maxHeartbeats 800000 in
theorem concat2_any (lo c : Nat) (v1 v2 : Value) (l1 l2 : List UInt8) (w : World) (c1 : w.cell? ⟨c, 0, none⟩ = some v1) (c2 : w.cell? ⟨c, 1, none⟩ = some v2) (h1 : Bs lo w v1 l1) (h2 : Bs lo w v2 l2) (hn : l1.length + l2.length ≤ 1000000) :
    Calls Try.prog 23 #[.slice (some ⟨c, 0, none⟩) 2 2] w fun e w' => ∃ v', e = .returned v' ∧ Bs w.heap.size w' v' (l1 ++ l2) ∧ Ext w w' := by
  obtain ⟨a1, p1, rfl, _⟩ := id h1
  obtain ⟨a2, p2, rfl, _⟩ := id h2
  have H1 := Lib.hid h1
  have H2 := Lib.hid h2
  have C2 := Lib.hid c2
  clear h1 h2
  go_enter Try.func23, Try.ntmps23
  go_wp2_with fail
  refine wp_loop_rounds 3 ?_
  repeat any_goals (rw [rounds_succ]; go_wp2_with fail)
  refine Calls.mono (grow_nil _ (l1.length + l2.length) w (by simp) (by omega)) ?_
  rintro e w1 ⟨v0, rfl, ho1, hb1⟩
  have c1' := below_keeps hb1 _ _ c1
  have c2' := below_keeps hb1 _ _ c2
  have H1' := Lib.hid (H1.out.mono hb1)
  clear c1 c2
  have hB := hb1.size
  go_wp2_with fail
  refine wp_loop_rounds 3 ?_
  rw [rounds_succ]
  go_wp2_with (at_builtin; refine wpList_append_sl _ rfl _ _ 28 rfl w.heap.size 5 (.int .u8 0) 1 1 elB _ _ _ rfl ho1 lo _ _ (u8s l1) rfl H1'.out (by simp [u8s]) (u8s_one l1) (fits _ _ (by omega) (by decide)) hB ?_)
  intro v2 w2 ho2 hg2 hb2 _
  have hb12 : Ext w w2 := hb1.trans hb2
  have hc2 : w2.cell? ⟨c, 1, none⟩ = some (Value.slice a2 l2.length p2) := below_keeps hb12 _ _ C2.out
  have H2' := Lib.hid (H2.out.mono hb12)
  have hB2 := hb12.size
  go_wp2_with fail
  rw [rounds_succ]
  go_wp2_with (at_builtin; refine wpList_append_sl _ rfl _ _ 28 rfl w.heap.size 5 (.int .u8 0) 1 1 elB _ _ _ rfl ho2 lo _ _ (u8s l2) rfl H2'.out (by simp [u8s]) (u8s_one l2) (fits _ _ (by omega) (by decide)) hB2 ?_)
  intro v3 w3 ho3 hg3 hb3 _
  go_wp2_with fail
  rw [rounds_succ]
  go_wp2_with fail
  go_ret
  exact ⟨_, rfl, Bs.own (by rw [List.length_append, u8s_app]; exact ho3), hb12.trans hb3⟩
end Go.Proofs.Ytebkepcjcciigaa
