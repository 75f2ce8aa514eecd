/- Layer 29: the sanity check, and the law OutqMoves. -/
import Derived.Test.YtkkdnaabfalpoaaQueue
import Derived.Test.YtkkdnaabfalpoaaMod
namespace Go.Proofs.Ytkkdnaabfalpoaa
open Go.RowKit
set_option linter.unusedSimpArgs false
set_option linter.unusedVariables false
theorem IsQ.fields {lo : Nat} {w : World} {v : Value} {q : Qu} (h : IsQ lo w v q) : ∃ ad cap, v = .agg #[.int .i64 q.lim, .slice ad q.data.length cap, .int .i64 q.rs] ∧ Bs lo w (.slice ad q.data.length cap) q.data := by
  obtain ⟨dv, rfl, h0⟩ := h
  obtain ⟨ad, cap, rfl, _⟩ := h0.shape
  exact ⟨ad, cap, rfl, h0⟩
theorem IsQ.mk (lo : Nat) (w : World) (a b : Int) (v : Value) (l : List UInt8) (h : Bs lo w v l) : IsQ lo w (.agg #[.int .i64 a, v, .int .i64 b]) ⟨a, l, b⟩ := ⟨v, rfl, h⟩
set_option maxRecDepth 100000 in
set_option maxHeartbeats 800000 in
theorem sane29 (w : World) : Calls Try.prog 12 #[] w fun e w' => e = .returned (.bool true) ∧ Ext w w' := by
  go_enter Try.func12, Try.ntmps12
  go_wp2_with fail
  refine Calls.mono (push_any 0 ⟨3, [], 0⟩ _ _ _ [97, 98] [] _ ⟨_, rfl, Bs.nil _ _⟩ (Bs.block _ _ _ _ _ _ _ _ [97, 98] rfl (Nat.zero_le _) rfl rfl (Nat.le_refl _) (by decide)) (Bs.nil _ _) (by decide) (by decide)) ?_
  rintro e w1 ⟨v', rfl, hq, hb⟩
  rw [show Qu.push ⟨3, [], 0⟩ [97, 98] [] = ⟨3, [97, 98], 0⟩ from by simp [Qu.push]] at hq
  obtain ⟨a1, p1, rfl, h1⟩ := hq.fields
  clear hq
  go_wp2_with fail
  refine Calls.mono (push_any 0 ⟨3, [97, 98], 0⟩ _ _ _ [99, 100] [120, 121, 122, 49] _ ⟨_, rfl, (h1.weak (Nat.zero_le _)).mono (by repeat (first | (with_reducible exact Below.refl _ _) | (with_reducible assumption) | (with_reducible refine Below.ext ?_ (by first | omega | (simp; done) | (simp; omega)) _ _) | (with_reducible refine Below.alloc ?_ (by first | omega | (simp; done) | (simp; omega)) _) | (with_reducible refine Below.setCell ?_ (by first | omega | (simp; done) | (simp; omega)) _) | (with_reducible refine Below.drew ?_)))⟩ ((Bs.block _ _ _ _ _ _ _ _ [99, 100] (by simp) (Nat.zero_le _) rfl rfl (Nat.le_refl _) (by decide)).mono (Ext.al _ _)) (Bs.block _ _ _ _ _ _ _ _ [120, 121, 122, 49] (by simp) (Nat.zero_le _) rfl rfl (Nat.le_refl _) (by decide)) (by decide) (by decide)) ?_
  rintro e w2 ⟨v', rfl, hq, hb2⟩
  rw [show Qu.push ⟨3, [97, 98], 0⟩ [99, 100] [120, 121, 122, 49] = ⟨3, [120, 121, 122, 49], 1⟩ from by simp [Qu.push, wrap64]] at hq
  obtain ⟨a2, p2, rfl, h2⟩ := hq.fields
  clear hq
  obtain ⟨t, d, rfl⟩ := hb2.form
  have cv : ∀ (W' : World) (d' : Nat), W'.heap.size = w1.heap.size + 1 + 1 + 1 → (convert 24 9 (.slice a2 4 p2)).run Try.prog (W'.ext t d') = .ok (.string (bs [120, 121, 122, 49])) (W'.ext t d') := fun W' d' hs => run_string_bs _ _ _ _ _ _ _ Try.underlying24 Try.underlying5 Try.underlying9 (h2.tail (by simpa using hs) (Nat.le_refl _))
  go_wp2_with fail
  go_ret
  exact ⟨by simp, (show Ext w w1 from (Ext.al _ _).tr hb).tr (by repeat (first | (with_reducible exact Below.refl _ _) | (with_reducible assumption) | (with_reducible refine Below.ext ?_ (by first | omega | (simp; done) | (simp; omega)) _ _) | (with_reducible refine Below.alloc ?_ (by first | omega | (simp; done) | (simp; omega)) _) | (with_reducible refine Below.setCell ?_ (by first | omega | (simp; done) | (simp; omega)) _) | (with_reducible refine Below.drew ?_)))⟩

set_option maxRecDepth 100000 in
set_option maxHeartbeats 8000000 in
theorem moves_walk (q : Qu) (qv v1 v2 : Value) (df fl : List UInt8) (n limit : Int) (w : World) (hq : IsQ 0 w qv q) (h1 : Bs 0 w v1 df) (h2 : Bs 0 w v2 fl)
    (hn : -9223372036854775808 ≤ n) (hn2 : n ≤ 9223372036854775807) (hm : -9223372036854775808 ≤ limit) (hm2 : limit ≤ 9223372036854775807) (hl : q.data.length ≤ 140737488355328 ∧ df.length ≤ 140737488355328 ∧ fl.length ≤ 140737488355328) :
    Calls Try.prog 4 #[qv, v1, v2, .int .i64 n, .int .i64 limit] w fun e w' => e = .returned (.bool true) ∧ Ext w w' := by
  obtain ⟨a0, p0, rfl, h0⟩ := hq.fields
  obtain ⟨a1, p1, rfl, _⟩ := h1.shape
  obtain ⟨a2, p2, rfl, _⟩ := h2.shape
  obtain ⟨l1, l2, l3⟩ := hl
  by_cases hN : q.data.length + df.length + fl.length ≤ 600
  · have hN' : ((q.data.length : Int) + df.length) + fl.length ≤ 600 := by omega
    have m0 : 0 ≤ limit % 40 := by omega
    have m1 : limit % 40 < 40 := by omega
    go_enter Try.func4, Try.ntmps4
    go_wp2_with fail
    refine Calls.mono (sane29 _) ?_
    rintro e w1 ⟨rfl, hb⟩
    obtain ⟨t, d, rfl⟩ := hb.form
    go_wp2_with fail
    refine Calls.mono (mod_any limit 40 _ (by decide) (by decide) hm hm2) ?_
    rintro e w1 ⟨rfl, rfl⟩
    go_wp2_with fail
    have hd : Bs 0 w (.slice a0 q.data.length p0) q.data := h0
    clear hq hb h0
    go_loopw [40] (fun i wr => ∃ k : Nat, k ≤ 2 ∧ i = .int .i64 k ∧ Ext w wr ∧ w.heap.size + 1 + t.size + 1 < wr.heap.size ∧ ∀ o, wr.cell? ⟨w.heap.size + 1 + t.size + 1, o, none⟩ = (#[.int .i64 q.lim, .slice a0 q.data.length p0, .int .i64 q.rs, .int .i64 (limit % 40), .slice a0 q.data.length p0, .int .i64 q.rs] : Array Value)[o]?) (fun i _ => 2 - (intOf i).toNat)
    case atStart => exact ⟨0, by omega, rfl, (by repeat (first | (with_reducible exact Below.refl _ _) | (with_reducible assumption) | (with_reducible refine Below.ext ?_ (by first | omega | (simp; done) | (simp; omega)) _ _) | (with_reducible refine Below.alloc ?_ (by first | omega | (simp; done) | (simp; omega)) _) | (with_reducible refine Below.setCell ?_ (by first | omega | (simp; done) | (simp; omega)) _) | (with_reducible refine Below.drew ?_))), by simp, by simp [go_sem]⟩
    case round =>
      obtain ⟨k, hk, rfl, hE, hlt, hA⟩ := hrel
      by_cases hk2 : k < 2
      · have hk3 : k = 0 ∨ k = 1 := by omega
        rcases hk3 with rfl | rfl
        all_goals
          go_upto_region 10 with (fail)
          go_cut [53] (fun b wc => b = .bool false ∧ ∃ X t d, wc = (wr.alloc (.cells #[.int .i64 X, .slice a0 q.data.length p0, .int .i64 q.rs] 33)).ext t d)
          case first =>
            go_region_with (first | (go_at_call 14; refine Calls.mono (push_any 0 _ _ _ _ df fl _ (IsQ.mk 0 _ _ _ _ q.data (hd.mono (hE.tr (by repeat (first | (with_reducible exact Below.refl _ _) | (with_reducible assumption) | (with_reducible refine Below.ext ?_ (by first | omega | (simp; done) | (simp; omega)) _ _) | (with_reducible refine Below.alloc ?_ (by first | omega | (simp; done) | (simp; omega)) _) | (with_reducible refine Below.setCell ?_ (by first | omega | (simp; done) | (simp; omega)) _) | (with_reducible refine Below.drew ?_)))))) (h1.mono (hE.tr (by repeat (first | (with_reducible exact Below.refl _ _) | (with_reducible assumption) | (with_reducible refine Below.ext ?_ (by first | omega | (simp; done) | (simp; omega)) _ _) | (with_reducible refine Below.alloc ?_ (by first | omega | (simp; done) | (simp; omega)) _) | (with_reducible refine Below.setCell ?_ (by first | omega | (simp; done) | (simp; omega)) _) | (with_reducible refine Below.drew ?_))))) (h2.mono (hE.tr (by repeat (first | (with_reducible exact Below.refl _ _) | (with_reducible assumption) | (with_reducible refine Below.ext ?_ (by first | omega | (simp; done) | (simp; omega)) _ _) | (with_reducible refine Below.alloc ?_ (by first | omega | (simp; done) | (simp; omega)) _) | (with_reducible refine Below.setCell ?_ (by first | omega | (simp; done) | (simp; omega)) _) | (with_reducible refine Below.drew ?_))))) (by first | omega | (simp; done) | (simp; omega)) (by first | omega | (simp; done) | (simp; omega))) ?_; rintro e w2 ⟨v', rfl, hr, hb2⟩; obtain ⟨a3, p3, rfl, hr3⟩ := hr.fields; obtain ⟨t3, d3, rfl⟩ := hb2.form) | (go_at_call 15; refine Calls.mono (rpush_any 0 _ _ _ _ df fl _ (IsQ.mk 0 _ _ _ _ q.data (hd.mono (hE.tr (by repeat (first | (with_reducible exact Below.refl _ _) | (with_reducible assumption) | (with_reducible refine Below.ext ?_ (by first | omega | (simp; done) | (simp; omega)) _ _) | (with_reducible refine Below.alloc ?_ (by first | omega | (simp; done) | (simp; omega)) _) | (with_reducible refine Below.setCell ?_ (by first | omega | (simp; done) | (simp; omega)) _) | (with_reducible refine Below.drew ?_)))))) (h1.mono (hE.tr (by repeat (first | (with_reducible exact Below.refl _ _) | (with_reducible assumption) | (with_reducible refine Below.ext ?_ (by first | omega | (simp; done) | (simp; omega)) _ _) | (with_reducible refine Below.alloc ?_ (by first | omega | (simp; done) | (simp; omega)) _) | (with_reducible refine Below.setCell ?_ (by first | omega | (simp; done) | (simp; omega)) _) | (with_reducible refine Below.drew ?_))))) (h2.mono (hE.tr (by repeat (first | (with_reducible exact Below.refl _ _) | (with_reducible assumption) | (with_reducible refine Below.ext ?_ (by first | omega | (simp; done) | (simp; omega)) _ _) | (with_reducible refine Below.alloc ?_ (by first | omega | (simp; done) | (simp; omega)) _) | (with_reducible refine Below.setCell ?_ (by first | omega | (simp; done) | (simp; omega)) _) | (with_reducible refine Below.drew ?_))))) (by first | omega | (simp; done) | (simp; omega)) (by first | omega | (simp; done) | (simp; omega))) ?_; rintro e w3 ⟨v'', rfl, hs, hb3⟩; have hr4 := Lib.hid (hr.mono hb3); obtain ⟨a4, p4, rfl, hr5⟩ := hs.fields; obtain ⟨t4, d4, rfl⟩ := hb3.form2) | (go_at_call 13; refine Calls.mono (qsame_any _ _ _ _ _ _ _ hr4.out hs) ?_; rintro e w4 ⟨rfl, hb4⟩; obtain ⟨t5, d5, rfl⟩ := hb4.form2))
            all_goals
              go_wp2_with fail
              go_meet
              exact ⟨by simp, _, _, _, rfl⟩
          case rest =>
            obtain ⟨rfl, X, t2, d2, rfl⟩ := hcut
            go_wp2_with fail
            refine Calls.mono (mod_any n 30 _ (by decide) (by decide) hn hn2) ?_
            rintro e w2 ⟨rfl, rfl⟩
            go_wp2_with fail
            obtain ⟨wo, rfl⟩ : ∃ wo : World, wo = wr := ⟨_, rfl⟩
            have hE2 : Ext w (((wo.alloc (.cells #[.int .i64 X, .slice a0 q.data.length p0, .int .i64 q.rs] 33)).ext t2 d2)) := hE.tr (by repeat (first | (with_reducible exact Below.refl _ _) | (with_reducible assumption) | (with_reducible refine Below.ext ?_ (by first | omega | (simp; done) | (simp; omega)) _ _) | (with_reducible refine Below.alloc ?_ (by first | omega | (simp; done) | (simp; omega)) _) | (with_reducible refine Below.setCell ?_ (by first | omega | (simp; done) | (simp; omega)) _) | (with_reducible refine Below.drew ?_)))
            have hAo := Lib.hid hA
            clear hA
            have hEw : Hid (∀ wi, Ext ((wo.alloc (.cells #[.int .i64 X, .slice a0 q.data.length p0, .int .i64 q.rs] 33)).ext t2 d2) wi → Ext wo wi) := Lib.hid fun wi h => Ext.tr (by repeat (first | (with_reducible exact Below.refl _ _) | (with_reducible assumption) | (with_reducible refine Below.ext ?_ (by first | omega | (simp; done) | (simp; omega)) _ _) | (with_reducible refine Below.alloc ?_ (by first | omega | (simp; done) | (simp; omega)) _) | (with_reducible refine Below.setCell ?_ (by first | omega | (simp; done) | (simp; omega)) _) | (with_reducible refine Below.drew ?_))) h
            go_loopw [60] (fun i wi => ∃ j : Nat, j ≤ 2 ∧ i = .int .i64 j ∧ Ext ((wo.alloc (.cells #[.int .i64 X, .slice a0 q.data.length p0, .int .i64 q.rs] 33)).ext t2 d2) wi ∧ wo.heap.size + 1 + t2.size < wi.heap.size ∧ (∀ o, wi.cell? ⟨wo.heap.size, o, none⟩ = (#[.int .i64 X, .slice a0 q.data.length p0, .int .i64 q.rs] : Array Value)[o]?) ∧ ∀ o, wi.cell? ⟨wo.heap.size + 1 + t2.size, o, none⟩ = (#[.int .i64 n, .int .i64 (n % 30 - 3)] : Array Value)[o]?) (fun i _ => 2 - (intOf i).toNat)
            case atStart => exact ⟨0, by omega, rfl, Ext.al _ _, by simp, by simp [go_sem], by simp [go_sem]⟩
            case round =>
              obtain ⟨j, hj, rfl, hEi, hlt2, hx, hk⟩ := hrel
              have hlt3 : wo.heap.size < wr.heap.size := by omega
              by_cases hj2 : j < 2
              · have hj3 : j = 0 ∨ j = 1 := by omega
                have hEq := Lib.hid (hE2.tr hEi)
                have hEo := Lib.hid hEi
                clear hEi
                rcases hj3 with rfl | rfl
                all_goals
                  go_wp2_with fail
                  refine Calls.mono (take_any 0 _ _ _ _ (IsQ.mk 0 _ _ _ _ q.data (hd.mono hEq.out)) (by first | omega | (simp; done) | (simp; omega))) ?_
                  rintro e w2 ⟨v', b', rfl, hr, hbs, hb2⟩
                  obtain ⟨a3, p3, rfl, hr3⟩ := hr.fields
                  obtain ⟨a5, p5, rfl, _⟩ := hbs.shape
                  obtain ⟨t3, d3, rfl⟩ := hb2.form
                  go_wp2_with fail
                  refine Calls.mono (rtake_any 0 _ _ _ _ (IsQ.mk 0 _ _ _ _ q.data (hd.mono (hEq.out.tr (by repeat (first | (with_reducible exact Below.refl _ _) | (with_reducible assumption) | (with_reducible refine Below.ext ?_ (by first | omega | (simp; done) | (simp; omega)) _ _) | (with_reducible refine Below.alloc ?_ (by first | omega | (simp; done) | (simp; omega)) _) | (with_reducible refine Below.setCell ?_ (by first | omega | (simp; done) | (simp; omega)) _) | (with_reducible refine Below.drew ?_)))))) (by first | omega | (simp; done) | (simp; omega))) ?_
                  rintro e w4 ⟨v', b', rfl, hs, hbt, hb4⟩
                  have hr4 := Lib.hid (hr.mono ((Ext.al _ _).tr hb4))
                  have hb5 := Lib.hid (hbs.mono ((Ext.al _ _).tr hb4))
                  obtain ⟨a4, p4, rfl, hs3⟩ := hs.fields
                  obtain ⟨a6, p6, rfl, _⟩ := hbt.shape
                  obtain ⟨t4, d4, rfl⟩ := hb4.form
                  go_wp2_with fail
                  refine Calls.mono (qsame_any _ _ _ _ _ _ _ (hr4.out.mono (Ext.al _ _)) (hs.mono (Ext.al _ _))) ?_
                  rintro e w5 ⟨he, hb6⟩
                  simp at he
                  subst he
                  have cv1 := run_string_bs (P := Try.prog) w5 _ _ _ _ _ _ Try.underlying24 Try.underlying5 Try.underlying9 (hb5.out.mono ((Ext.al _ _).tr hb6))
                  have cv2 := run_string_bs (P := Try.prog) w5 _ _ _ _ _ _ Try.underlying24 Try.underlying5 Try.underlying9 (hbt.mono ((Ext.al _ _).tr hb6))
                  simp only [List.length_take] at cv1 cv2
                  have hE5 : Ext wr w5 := by
                    refine Ext.tr (Ext.tr ?_ (Ext.al _ _)) hb6
                    exact (by repeat (first | (with_reducible exact Below.refl _ _) | (with_reducible assumption) | (with_reducible refine Below.ext ?_ (by first | omega | (simp; done) | (simp; omega)) _ _) | (with_reducible refine Below.alloc ?_ (by first | omega | (simp; done) | (simp; omega)) _) | (with_reducible refine Below.setCell ?_ (by first | omega | (simp; done) | (simp; omega)) _) | (with_reducible refine Below.drew ?_)))
                  clear hb6 hb2 hb4 hr hr3 hbs hs hs3 hbt hr4 hb5
                  go_wp2_with fail
                  go_roundw
                  case rel => first | exact ⟨1, by omega, rfl, Ext.tr hEo.out hE5, by have := hE5.size; omega, fun o => (hE5.cell (by exact hlt3)).trans (hx o), fun o => (hE5.cell (by exact hlt2)).trans (hk o)⟩ | exact ⟨2, by omega, rfl, Ext.tr hEo.out hE5, by have := hE5.size; omega, fun o => (hE5.cell (by exact hlt3)).trans (hx o), fun o => (hE5.cell (by exact hlt2)).trans (hk o)⟩
                  case measure => simp [intOf]
              · go_wp2_with fail
                go_roundw
                case rel =>
                  have hEn := hEw.out _ hEi
                  first | exact ⟨1, by omega, rfl, hE.tr hEn, by have := hEn.size; omega, fun o => (hEn.cell (by exact hlt)).trans (hAo.out o)⟩ | exact ⟨2, by omega, rfl, hE.tr hEn, by have := hEn.size; omega, fun o => (hEn.cell (by exact hlt)).trans (hAo.out o)⟩
                case measure => simp [intOf]
      · go_wp2_with fail
        go_ret
        exact ⟨rfl, hE⟩
  · have hN' : ¬ ((q.data.length : Int) + df.length) + fl.length ≤ 600 := by omega
    go_enter Try.func4, Try.ntmps4
    go_wp2_with fail
    refine Calls.mono (sane29 _) ?_
    rintro e w1 ⟨rfl, hb⟩
    obtain ⟨t, d, rfl⟩ := hb.form
    go_wp2_with fail
    go_ret
    exact ⟨rfl, (by repeat (first | (with_reducible exact Below.refl _ _) | (with_reducible assumption) | (with_reducible refine Below.ext ?_ (by first | omega | (simp; done) | (simp; omega)) _ _) | (with_reducible refine Below.alloc ?_ (by first | omega | (simp; done) | (simp; omega)) _) | (with_reducible refine Below.setCell ?_ (by first | omega | (simp; done) | (simp; omega)) _) | (with_reducible refine Below.drew ?_)))⟩
end Go.Proofs.Ytkkdnaabfalpoaa
