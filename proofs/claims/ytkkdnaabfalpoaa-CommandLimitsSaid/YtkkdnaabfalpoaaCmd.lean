/- Layer 28: which commands are proper; their payloads. The program's functions and the reference's. -/
import Derived.Test.YtkkdnaabfalpoaaLib
import Derived.BigGuardPart
namespace Go.Proofs.Ytkkdnaabfalpoaa
open Go.RowKit
set_option linter.unusedSimpArgs false
set_option linter.unusedVariables false
structure Cm where
  kind : Int
  rows : Int
  cols : Int
  name : List UInt8
  data : List UInt8
def IsC (lo : Nat) (w : World) (v : Value) (c : Cm) : Prop := ∃ dv, v = .agg #[.int .i64 c.kind, .int .i64 c.rows, .int .i64 c.cols, .string (bs c.name), dv] ∧ Bs lo w dv c.data
theorem IsC.mono {lo : Nat} {w w' : World} {v : Value} {c : Cm} (h : IsC lo w v c) (hb : Ext w w') : IsC lo w' v c := by
  obtain ⟨dv, rfl, h⟩ := h; exact ⟨dv, rfl, h.mono hb⟩
theorem IsC.weak {lo lo' : Nat} {w : World} {v : Value} {c : Cm} (h : IsC lo w v c) (hb : lo' ≤ lo) : IsC lo' w v c := by
  obtain ⟨dv, rfl, h⟩ := h; exact ⟨dv, rfl, h.weak hb⟩
/-- Has the command exactly the fields of its kind? -/
def Cm.ok (c : Cm) : Bool :=
  if c.kind = 1 then decide (1 ≤ c.rows ∧ c.rows ≤ 30 ∧ 1 ≤ c.cols ∧ c.cols ≤ 100 ∧ c.name = [] ∧ c.data = [])
  else if c.kind = 2 ∨ c.kind = 4 ∨ c.kind = 5 ∨ c.kind = 6 then decide (c.rows = 0 ∧ c.cols = 0 ∧ 1 ≤ c.name.length ∧ c.name.length ≤ 32 ∧ c.data = [])
  else if c.kind = 3 ∨ c.kind = 7 then decide (c.rows = 0 ∧ c.cols = 0 ∧ c.name = [] ∧ c.data.length ≤ 4095)
  else if c.kind = 8 ∨ c.kind = 9 then decide (c.rows = 0 ∧ c.cols = 0 ∧ c.name = [] ∧ c.data = [])
  else false
theorem ret_bool {a b : Bool} (h : a = b) : Ending.returned (.bool a) = .returned (.bool b) := by rw [h]
theorem len_beq (l : List UInt8) : ((l.length : Int) == 0) = l.isEmpty := by cases l <;> simp <;> omega

set_option maxRecDepth 100000 in
set_option maxHeartbeats 800000 in
theorem proper_hello (lo : Nat) (c : Cm) (cv : Value) (w : World) (hc : IsC lo w cv c) (hk : c.kind = 1) :
    Calls Try.prog 27 #[cv] w fun e w' => e = .returned (.bool c.ok) ∧ Ext w w' := by
  obtain ⟨dv, rfl, h0⟩ := hc
  obtain ⟨a0, p0, rfl, _⟩ := h0.shape
  clear h0
  obtain ⟨kind, rows, cols, name, data⟩ := c
  simp only at *
  subst hk
  all_goals
    go_enter Try.func27, Try.ntmps27
    go_wp2
  all_goals
    go_ret
    refine ⟨ret_bool ?_, (by repeat (first | (with_reducible exact Below.refl _ _) | (with_reducible assumption) | (with_reducible refine Below.ext ?_ (by first | omega | (simp; done) | (simp; omega)) _ _) | (with_reducible refine Below.alloc ?_ (by first | omega | (simp; done) | (simp; omega)) _) | (with_reducible refine Below.setCell ?_ (by first | omega | (simp; done) | (simp; omega)) _) | (with_reducible refine Below.drew ?_) | (with_reducible refine Below.drewN ?_ _)))⟩
  all_goals first | (simp_all [Cm.ok, len_beq]; done) | (simp_all [Cm.ok, len_beq]; omega) | (rw [len_beq]; cases data <;> simp_all [Cm.ok]; done) | (rw [len_beq]; cases data <;> simp_all [Cm.ok] <;> omega)

set_option maxRecDepth 100000 in
set_option maxHeartbeats 800000 in
theorem proper_name (lo : Nat) (c : Cm) (cv : Value) (w : World) (hc : IsC lo w cv c) (hk : c.kind = 2 ∨ c.kind = 4 ∨ c.kind = 5 ∨ c.kind = 6) :
    Calls Try.prog 27 #[cv] w fun e w' => e = .returned (.bool c.ok) ∧ Ext w w' := by
  obtain ⟨dv, rfl, h0⟩ := hc
  obtain ⟨a0, p0, rfl, _⟩ := h0.shape
  clear h0
  obtain ⟨kind, rows, cols, name, data⟩ := c
  simp only at *
  rcases hk with rfl | rfl | rfl | rfl
  all_goals
    go_enter Try.func27, Try.ntmps27
    go_wp2
  all_goals
    go_ret
    refine ⟨ret_bool ?_, (by repeat (first | (with_reducible exact Below.refl _ _) | (with_reducible assumption) | (with_reducible refine Below.ext ?_ (by first | omega | (simp; done) | (simp; omega)) _ _) | (with_reducible refine Below.alloc ?_ (by first | omega | (simp; done) | (simp; omega)) _) | (with_reducible refine Below.setCell ?_ (by first | omega | (simp; done) | (simp; omega)) _) | (with_reducible refine Below.drew ?_) | (with_reducible refine Below.drewN ?_ _)))⟩
  all_goals first | (simp_all [Cm.ok, len_beq]; done) | (simp_all [Cm.ok, len_beq]; omega) | (rw [len_beq]; cases data <;> simp_all [Cm.ok]; done) | (rw [len_beq]; cases data <;> simp_all [Cm.ok] <;> omega)

set_option maxRecDepth 100000 in
set_option maxHeartbeats 800000 in
theorem proper_data (lo : Nat) (c : Cm) (cv : Value) (w : World) (hc : IsC lo w cv c) (hk : c.kind = 3 ∨ c.kind = 7) :
    Calls Try.prog 27 #[cv] w fun e w' => e = .returned (.bool c.ok) ∧ Ext w w' := by
  obtain ⟨dv, rfl, h0⟩ := hc
  obtain ⟨a0, p0, rfl, _⟩ := h0.shape
  clear h0
  obtain ⟨kind, rows, cols, name, data⟩ := c
  simp only at *
  rcases hk with rfl | rfl
  all_goals
    go_enter Try.func27, Try.ntmps27
    go_wp2
  all_goals
    go_ret
    refine ⟨ret_bool ?_, (by repeat (first | (with_reducible exact Below.refl _ _) | (with_reducible assumption) | (with_reducible refine Below.ext ?_ (by first | omega | (simp; done) | (simp; omega)) _ _) | (with_reducible refine Below.alloc ?_ (by first | omega | (simp; done) | (simp; omega)) _) | (with_reducible refine Below.setCell ?_ (by first | omega | (simp; done) | (simp; omega)) _) | (with_reducible refine Below.drew ?_) | (with_reducible refine Below.drewN ?_ _)))⟩
  all_goals first | (simp_all [Cm.ok, len_beq]; done) | (simp_all [Cm.ok, len_beq]; omega) | (rw [len_beq]; cases data <;> simp_all [Cm.ok]; done) | (rw [len_beq]; cases data <;> simp_all [Cm.ok] <;> omega)

set_option maxRecDepth 100000 in
set_option maxHeartbeats 800000 in
theorem proper_bare (lo : Nat) (c : Cm) (cv : Value) (w : World) (hc : IsC lo w cv c) (hk : c.kind = 8 ∨ c.kind = 9) :
    Calls Try.prog 27 #[cv] w fun e w' => e = .returned (.bool c.ok) ∧ Ext w w' := by
  obtain ⟨dv, rfl, h0⟩ := hc
  obtain ⟨a0, p0, rfl, _⟩ := h0.shape
  clear h0
  obtain ⟨kind, rows, cols, name, data⟩ := c
  simp only at *
  rcases hk with rfl | rfl
  all_goals
    go_enter Try.func27, Try.ntmps27
    go_wp2
  all_goals
    go_ret
    refine ⟨ret_bool ?_, (by repeat (first | (with_reducible exact Below.refl _ _) | (with_reducible assumption) | (with_reducible refine Below.ext ?_ (by first | omega | (simp; done) | (simp; omega)) _ _) | (with_reducible refine Below.alloc ?_ (by first | omega | (simp; done) | (simp; omega)) _) | (with_reducible refine Below.setCell ?_ (by first | omega | (simp; done) | (simp; omega)) _) | (with_reducible refine Below.drew ?_) | (with_reducible refine Below.drewN ?_ _)))⟩
  all_goals first | (simp_all [Cm.ok, len_beq]; done) | (simp_all [Cm.ok, len_beq]; omega) | (rw [len_beq]; cases data <;> simp_all [Cm.ok]; done) | (rw [len_beq]; cases data <;> simp_all [Cm.ok] <;> omega)

set_option maxRecDepth 100000 in
set_option maxHeartbeats 800000 in
theorem proper_none (lo : Nat) (c : Cm) (cv : Value) (w : World) (hc : IsC lo w cv c) (hk : c.kind < 1 ∨ 9 < c.kind) :
    Calls Try.prog 27 #[cv] w fun e w' => e = .returned (.bool c.ok) ∧ Ext w w' := by
  obtain ⟨dv, rfl, h0⟩ := hc
  obtain ⟨a0, p0, rfl, _⟩ := h0.shape
  clear h0
  obtain ⟨kind, rows, cols, name, data⟩ := c
  simp only at *
  rcases hk with hk | hk
  all_goals
    go_enter Try.func27, Try.ntmps27
    go_wp2
  all_goals
    go_ret
    refine ⟨ret_bool ?_, (by repeat (first | (with_reducible exact Below.refl _ _) | (with_reducible assumption) | (with_reducible refine Below.ext ?_ (by first | omega | (simp; done) | (simp; omega)) _ _) | (with_reducible refine Below.alloc ?_ (by first | omega | (simp; done) | (simp; omega)) _) | (with_reducible refine Below.setCell ?_ (by first | omega | (simp; done) | (simp; omega)) _) | (with_reducible refine Below.drew ?_) | (with_reducible refine Below.drewN ?_ _)))⟩
  all_goals first | (simp_all [Cm.ok, len_beq]; done) | (simp_all [Cm.ok, len_beq]; omega) | (rw [len_beq]; cases data <;> simp_all [Cm.ok]; done) | (rw [len_beq]; cases data <;> simp_all [Cm.ok] <;> omega)

theorem proper_any (lo : Nat) (c : Cm) (cv : Value) (w : World) (hc : IsC lo w cv c) :
    Calls Try.prog 27 #[cv] w fun e w' => e = .returned (.bool c.ok) ∧ Ext w w' := by
  have h : c.kind = 1 ∨ (c.kind = 2 ∨ c.kind = 4 ∨ c.kind = 5 ∨ c.kind = 6) ∨ (c.kind = 3 ∨ c.kind = 7) ∨ (c.kind = 8 ∨ c.kind = 9) ∨ (c.kind < 1 ∨ 9 < c.kind) := by omega
  rcases h with h | h | h | h | h
  · exact proper_hello lo c cv w hc h
  · exact proper_name lo c cv w hc h
  · exact proper_data lo c cv w hc h
  · exact proper_bare lo c cv w hc h
  · exact proper_none lo c cv w hc h
end Go.Proofs.Ytkkdnaabfalpoaa
