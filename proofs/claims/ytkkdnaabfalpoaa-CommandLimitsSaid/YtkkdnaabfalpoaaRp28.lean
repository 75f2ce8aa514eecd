/- Layer 28, the reference: proper and Encode. -/
import Derived.Test.YtkkdnaabfalpoaaRef28
namespace Go.Proofs.Ytkkdnaabfalpoaa
open Go.RowKit
set_option linter.unusedSimpArgs false
set_option linter.unusedVariables false
set_option maxRecDepth 100000 in
set_option maxHeartbeats 800000 in
theorem rproper_out (lo : Nat) (c : Cm) (cv : Value) (w : World) (hc : IsC lo w cv c) (hk : c.kind < 1 ∨ 9 < c.kind) :
    Calls Try.prog 28 #[cv] w fun e w' => e = .returned (.bool c.ok) ∧ Ext w w' := by
  have hok : c.ok = false := by
    rw [← Cm.rok_eq]; unfold Cm.rok; simp; omega
  rw [hok]
  obtain ⟨a0, p0, rfl, h0⟩ := isC_fields hc
  obtain ⟨kind, rows, cols, name, data⟩ := c
  simp only at *
  clear hok hc h0
  rcases hk with hk | hk
  · have d1 : decide (kind < 1) = true := by simpa using hk
    go_enter Try.func28, Try.ntmps28
    go_wp2_with fail
    go_quiet (fail)
    all_goals go_wp2_with fail
    all_goals go_ret
    all_goals exact ⟨rfl, (by repeat (first | (with_reducible exact Below.refl _ _) | (with_reducible assumption) | (with_reducible refine Below.ext ?_ (by first | omega | (simp; done) | (simp; omega)) _ _) | (with_reducible refine Below.alloc ?_ (by first | omega | (simp; done) | (simp; omega)) _) | (with_reducible refine Below.setCell ?_ (by first | omega | (simp; done) | (simp; omega)) _) | (with_reducible refine Below.drew ?_) | (with_reducible refine Below.drewN ?_ _)))⟩
  · have d1 : decide (kind < 1) = false := by simp; omega
    have d2 : decide (9 < kind) = true := by simpa using hk
    go_enter Try.func28, Try.ntmps28
    go_wp2_with fail
    go_quiet (fail)
    all_goals go_wp2_with fail
    all_goals go_ret
    all_goals exact ⟨rfl, (by repeat (first | (with_reducible exact Below.refl _ _) | (with_reducible assumption) | (with_reducible refine Below.ext ?_ (by first | omega | (simp; done) | (simp; omega)) _ _) | (with_reducible refine Below.alloc ?_ (by first | omega | (simp; done) | (simp; omega)) _) | (with_reducible refine Below.setCell ?_ (by first | omega | (simp; done) | (simp; omega)) _) | (with_reducible refine Below.drew ?_) | (with_reducible refine Below.drewN ?_ _)))⟩
set_option maxRecDepth 100000 in
set_option maxHeartbeats 800000 in
theorem rproper_in (lo : Nat) (c : Cm) (cv : Value) (w : World) (hc : IsC lo w cv c) (hk : 1 ≤ c.kind) (hk2 : c.kind ≤ 9) :
    Calls Try.prog 28 #[cv] w fun e w' => e = .returned (.bool c.ok) ∧ Ext w w' := by
  have hr := Lib.hid (Cm.rok_eq c)
  obtain ⟨a0, p0, rfl, h0⟩ := isC_fields hc
  have hC := Lib.hid hc
  have d1 : decide (c.kind < 1) = false := by simp; omega
  have d2 : decide (9 < c.kind) = false := by simp; omega
  clear h0 hc
  go_enter Try.func28, Try.ntmps28
  go_upto_region 1 with (fail)
  go_cut [17] (fun b wc => b = .bool (!(c.same c.clean)) ∧ ∃ t d, wc = (w.alloc (.cells #[.int .i64 c.kind, .int .i64 c.rows, .int .i64 c.cols, .string (bs c.name), .slice a0 c.data.length p0] 26)).ext t d)
  case first =>
    go_region_with (first | (go_at_call 34; refine Calls.mono (clean_any lo c _ _ (hC.out.mono (by repeat (first | (with_reducible exact Below.refl _ _) | (with_reducible assumption) | (with_reducible refine Below.ext ?_ (by first | omega | (simp; done) | (simp; omega)) _ _) | (with_reducible refine Below.alloc ?_ (by first | omega | (simp; done) | (simp; omega)) _) | (with_reducible refine Below.setCell ?_ (by first | omega | (simp; done) | (simp; omega)) _) | (with_reducible refine Below.drew ?_) | (with_reducible refine Below.drewN ?_ _))))) ?_; rintro e w2 ⟨v', rfl, hr, hb2⟩; obtain ⟨a3, p3, rfl, hr3⟩ := isC_fields hr; obtain ⟨t3, d3, rfl⟩ := hb2.form) | (go_at_call 26; refine Calls.mono (csame_any lo _ c _ _ _ _ (hC.out.mono (by repeat (first | (with_reducible exact Below.refl _ _) | (with_reducible assumption) | (with_reducible refine Below.ext ?_ (by first | omega | (simp; done) | (simp; omega)) _ _) | (with_reducible refine Below.alloc ?_ (by first | omega | (simp; done) | (simp; omega)) _) | (with_reducible refine Below.setCell ?_ (by first | omega | (simp; done) | (simp; omega)) _) | (with_reducible refine Below.drew ?_) | (with_reducible refine Below.drewN ?_ _)))) hr) ?_; rintro e w4 ⟨rfl, hb4⟩; obtain ⟨t5, d5, rfl⟩ := hb4.form2))
    all_goals
      go_wp2_with fail
      go_meet
      exact ⟨rfl, _, _, rfl⟩
  case rest =>
    obtain ⟨rfl, t, d, rfl⟩ := hcut
    obtain ⟨kind, rows, cols, name, data⟩ := c
    simp only at *
    cases hs : Cm.same ⟨kind, rows, cols, name, data⟩ (Cm.clean ⟨kind, rows, cols, name, data⟩) with
    | false =>
      have hok : Cm.ok ⟨kind, rows, cols, name, data⟩ = false := by rw [← hr.out]; unfold Cm.rok; rw [hs]; simp
      clear hs hr hC
      have hOk := Lib.hid hok
      clear hok
      go_wp2_with fail
      go_ret
      exact ⟨ret_bool hOk.out.symm, (by repeat (first | (with_reducible exact Below.refl _ _) | (with_reducible assumption) | (with_reducible refine Below.ext ?_ (by first | omega | (simp; done) | (simp; omega)) _ _) | (with_reducible refine Below.alloc ?_ (by first | omega | (simp; done) | (simp; omega)) _) | (with_reducible refine Below.setCell ?_ (by first | omega | (simp; done) | (simp; omega)) _) | (with_reducible refine Below.drew ?_) | (with_reducible refine Below.drewN ?_ _)))⟩
    | true =>
      have hr2 := hr.out
      unfold Cm.rok at hr2
      rw [hs] at hr2
      simp only at hr2
      have hR := Lib.hid hr2
      clear hs hr hr2 hC d1 d2
      have h : kind = 1 ∨ (kind = 2 ∨ kind = 4 ∨ kind = 5 ∨ kind = 6) ∨ (kind = 3 ∨ kind = 7) ∨ (kind = 8 ∨ kind = 9) := by omega
      rcases h with rfl | (rfl | rfl | rfl | rfl) | (rfl | rfl) | (rfl | rfl)
      all_goals
        clear hk hk2
        go_wp2
      all_goals
        go_ret
        refine ⟨ret_bool ?_, (by repeat (first | (with_reducible exact Below.refl _ _) | (with_reducible assumption) | (with_reducible refine Below.ext ?_ (by first | omega | (simp; done) | (simp; omega)) _ _) | (with_reducible refine Below.alloc ?_ (by first | omega | (simp; done) | (simp; omega)) _) | (with_reducible refine Below.setCell ?_ (by first | omega | (simp; done) | (simp; omega)) _) | (with_reducible refine Below.drew ?_) | (with_reducible refine Below.drewN ?_ _)))⟩
        rw [← hR.out]
      all_goals first | (simp; done) | (simp; omega) | (simp; intros; omega) | (simp; rw [Bool.eq_iff_iff]; simp; omega)
theorem rproper_any (lo : Nat) (c : Cm) (cv : Value) (w : World) (hc : IsC lo w cv c) :
    Calls Try.prog 28 #[cv] w fun e w' => e = .returned (.bool c.ok) ∧ Ext w w' := by
  by_cases h : c.kind < 1 ∨ 9 < c.kind
  · exact rproper_out lo c cv w hc h
  · exact rproper_in lo c cv w hc (by omega) (by omega)

end Go.Proofs.Ytkkdnaabfalpoaa
