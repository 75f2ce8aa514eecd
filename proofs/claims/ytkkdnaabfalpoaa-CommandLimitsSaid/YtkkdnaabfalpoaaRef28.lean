/- Layer 28, the reference's functions: clean, Same, proper, Encode. -/
import Derived.Test.YtkkdnaabfalpoaaEnc
namespace Go.Proofs.Ytkkdnaabfalpoaa
open Go.RowKit
set_option linter.unusedSimpArgs false
set_option linter.unusedVariables false
def Cm.same (a b : Cm) : Bool := a.kind == b.kind && (a.rows == b.rows && (a.cols == b.cols && (a.name == b.name && a.data == b.data)))
theorem Cm.same_iff (a b : Cm) : a.same b = true ↔ a = b := by
  obtain ⟨a1, a2, a3, a4, a5⟩ := a
  obtain ⟨b1, b2, b3, b4, b5⟩ := b
  simp [Cm.same]
set_option maxRecDepth 100000 in
set_option maxHeartbeats 800000 in
theorem csame_any (lo lo2 : Nat) (p q : Cm) (pv qv : Value) (w : World) (hp : IsC lo w pv p) (hq : IsC lo2 w qv q) :
    Calls Try.prog 26 #[pv, qv] w fun e w' => e = .returned (.bool (p.same q)) ∧ Ext w w' := by
  obtain ⟨a0, p0, rfl, h0⟩ := isC_fields hp
  obtain ⟨a1, p1, rfl, h1⟩ := isC_fields hq
  have c0 : ∀ X Y, (convert 24 9 (.slice a0 p.data.length p0)).run Try.prog ((w.alloc X).alloc Y) = .ok (.string (bs p.data)) ((w.alloc X).alloc Y) := fun X Y => run_string_bs _ lo _ _ _ _ _ Try.underlying24 Try.underlying5 Try.underlying9 (h0.mono (by repeat (first | (with_reducible exact Below.refl _ _) | (with_reducible assumption) | (with_reducible refine Below.ext ?_ (by first | omega | (simp; done) | (simp; omega)) _ _) | (with_reducible refine Below.alloc ?_ (by first | omega | (simp; done) | (simp; omega)) _) | (with_reducible refine Below.setCell ?_ (by first | omega | (simp; done) | (simp; omega)) _) | (with_reducible refine Below.drew ?_) | (with_reducible refine Below.drewN ?_ _))))
  have c1 : ∀ X Y, (convert 24 9 (.slice a1 q.data.length p1)).run Try.prog ((w.alloc X).alloc Y) = .ok (.string (bs q.data)) ((w.alloc X).alloc Y) := fun X Y => run_string_bs _ lo2 _ _ _ _ _ Try.underlying24 Try.underlying5 Try.underlying9 (h1.mono (by repeat (first | (with_reducible exact Below.refl _ _) | (with_reducible assumption) | (with_reducible refine Below.ext ?_ (by first | omega | (simp; done) | (simp; omega)) _ _) | (with_reducible refine Below.alloc ?_ (by first | omega | (simp; done) | (simp; omega)) _) | (with_reducible refine Below.setCell ?_ (by first | omega | (simp; done) | (simp; omega)) _) | (with_reducible refine Below.drew ?_) | (with_reducible refine Below.drewN ?_ _))))
  clear h0 h1 hp hq
  obtain ⟨k, r, c, n, d⟩ := p
  obtain ⟨k', r', c', n', d'⟩ := q
  simp only [Cm.same] at *
  by_cases k1 : k = k'
  · by_cases k2 : r = r'
    · by_cases k3 : c = c'
      · by_cases k4 : n = n'
        all_goals
          have b1 : (k == k') = true := by simp [k1]
          have b2 : (r == r') = true := by simp [k2]
          have b3 : (c == c') = true := by simp [k3]
        · have b4 : (n == n') = true := by simp [k4]
          clear k1 k2 k3 k4
          go_enter Try.func26, Try.ntmps26
          go_wp2_with fail
          go_ret
          exact ⟨by rw [b1, b2, b3, b4]; simp, (by repeat (first | (with_reducible exact Below.refl _ _) | (with_reducible assumption) | (with_reducible refine Below.ext ?_ (by first | omega | (simp; done) | (simp; omega)) _ _) | (with_reducible refine Below.alloc ?_ (by first | omega | (simp; done) | (simp; omega)) _) | (with_reducible refine Below.setCell ?_ (by first | omega | (simp; done) | (simp; omega)) _) | (with_reducible refine Below.drew ?_) | (with_reducible refine Below.drewN ?_ _)))⟩
        · have b4 : (n == n') = false := by simp [k4]
          clear k1 k2 k3 k4
          go_enter Try.func26, Try.ntmps26
          go_wp2_with fail
          go_ret
          exact ⟨by rw [b1, b2, b3, b4]; simp, (by repeat (first | (with_reducible exact Below.refl _ _) | (with_reducible assumption) | (with_reducible refine Below.ext ?_ (by first | omega | (simp; done) | (simp; omega)) _ _) | (with_reducible refine Below.alloc ?_ (by first | omega | (simp; done) | (simp; omega)) _) | (with_reducible refine Below.setCell ?_ (by first | omega | (simp; done) | (simp; omega)) _) | (with_reducible refine Below.drew ?_) | (with_reducible refine Below.drewN ?_ _)))⟩
      · have b1 : (k == k') = true := by simp [k1]
        have b2 : (r == r') = true := by simp [k2]
        have b3 : (c == c') = false := by simp [k3]
        clear k1 k2 k3
        go_enter Try.func26, Try.ntmps26
        go_wp2_with fail
        go_ret
        exact ⟨by rw [b1, b2, b3]; simp, (by repeat (first | (with_reducible exact Below.refl _ _) | (with_reducible assumption) | (with_reducible refine Below.ext ?_ (by first | omega | (simp; done) | (simp; omega)) _ _) | (with_reducible refine Below.alloc ?_ (by first | omega | (simp; done) | (simp; omega)) _) | (with_reducible refine Below.setCell ?_ (by first | omega | (simp; done) | (simp; omega)) _) | (with_reducible refine Below.drew ?_) | (with_reducible refine Below.drewN ?_ _)))⟩
    · have b1 : (k == k') = true := by simp [k1]
      have b2 : (r == r') = false := by simp [k2]
      clear k1 k2
      go_enter Try.func26, Try.ntmps26
      go_wp2_with fail
      go_ret
      exact ⟨by rw [b1, b2]; simp, (by repeat (first | (with_reducible exact Below.refl _ _) | (with_reducible assumption) | (with_reducible refine Below.ext ?_ (by first | omega | (simp; done) | (simp; omega)) _ _) | (with_reducible refine Below.alloc ?_ (by first | omega | (simp; done) | (simp; omega)) _) | (with_reducible refine Below.setCell ?_ (by first | omega | (simp; done) | (simp; omega)) _) | (with_reducible refine Below.drew ?_) | (with_reducible refine Below.drewN ?_ _)))⟩
  · have b1 : (k == k') = false := by simp [k1]
    clear k1
    go_enter Try.func26, Try.ntmps26
    go_wp2_with fail
    go_ret
    exact ⟨by rw [b1]; simp, (by repeat (first | (with_reducible exact Below.refl _ _) | (with_reducible assumption) | (with_reducible refine Below.ext ?_ (by first | omega | (simp; done) | (simp; omega)) _ _) | (with_reducible refine Below.alloc ?_ (by first | omega | (simp; done) | (simp; omega)) _) | (with_reducible refine Below.setCell ?_ (by first | omega | (simp; done) | (simp; omega)) _) | (with_reducible refine Below.drew ?_) | (with_reducible refine Below.drewN ?_ _)))⟩
def Cm.clean (c : Cm) : Cm :=
  if c.kind = 1 then { c with name := [], data := [] }
  else if c.kind = 2 ∨ c.kind = 4 ∨ c.kind = 5 ∨ c.kind = 6 then { c with rows := 0, cols := 0, data := [] }
  else if c.kind = 3 ∨ c.kind = 7 then { c with rows := 0, cols := 0, name := [] }
  else ⟨c.kind, 0, 0, [], []⟩
theorem clean_name (k r c : Int) (n d : List UInt8) (h : k = 2 ∨ k = 4 ∨ k = 5 ∨ k = 6) : Cm.clean ⟨k, r, c, n, d⟩ = ⟨k, 0, 0, n, []⟩ := by
  unfold Cm.clean; simp only; rw [if_neg (by omega), if_pos h]
theorem clean_data (k r c : Int) (n d : List UInt8) (h : k = 3 ∨ k = 7) : Cm.clean ⟨k, r, c, n, d⟩ = ⟨k, 0, 0, [], d⟩ := by
  unfold Cm.clean; simp only; rw [if_neg (by omega), if_neg (by omega), if_pos h]
theorem clean_bare (k r c : Int) (n d : List UInt8) (h : (k < 1 ∨ 7 < k)) : Cm.clean ⟨k, r, c, n, d⟩ = ⟨k, 0, 0, [], []⟩ := by
  unfold Cm.clean; simp only; rw [if_neg (by omega), if_neg (by omega), if_neg (by omega)]
set_option maxRecDepth 100000 in
set_option maxHeartbeats 800000 in
theorem clean_any (lo : Nat) (c : Cm) (cv : Value) (w : World) (hc : IsC lo w cv c) :
    Calls Try.prog 34 #[cv] w fun e w' => ∃ v', e = .returned v' ∧ IsC lo w' v' c.clean ∧ Ext w w' := by
  obtain ⟨a0, p0, rfl, h0⟩ := isC_fields hc
  obtain ⟨kind, rows, cols, name, data⟩ := c
  simp only at *
  have h : kind = 1 ∨ (kind = 2 ∨ kind = 4 ∨ kind = 5 ∨ kind = 6) ∨ (kind = 3 ∨ kind = 7) ∨ (kind = 8 ∨ kind = 9) ∨ (kind < 1 ∨ 9 < kind) := by omega
  have hn : ∀ (w' : World), Bs lo w' (.slice none 0 0) [] := fun w' => Bs.nil lo w'
  have hH := Lib.hid h0
  clear h0 hc
  rcases h with rfl | (rfl | rfl | rfl | rfl) | (rfl | rfl) | (rfl | rfl) | (h | h)
  · go_enter Try.func34, Try.ntmps34
    go_wp2_with fail
    go_region
    all_goals go_wp2_with fail
    all_goals go_returns
    all_goals exact ⟨_, rfl, by simp only [Cm.clean, if_true]; exact IsC.mk _ _ _ _ _ _ _ _ (hn _), (by repeat (first | (with_reducible exact Below.refl _ _) | (with_reducible assumption) | (with_reducible refine Below.ext ?_ (by first | omega | (simp; done) | (simp; omega)) _ _) | (with_reducible refine Below.alloc ?_ (by first | omega | (simp; done) | (simp; omega)) _) | (with_reducible refine Below.setCell ?_ (by first | omega | (simp; done) | (simp; omega)) _) | (with_reducible refine Below.drew ?_) | (with_reducible refine Below.drewN ?_ _)))⟩
  all_goals
    go_enter Try.func34, Try.ntmps34
    go_wp2_with fail
    go_returns
  all_goals refine ⟨_, rfl, ?_, (by repeat (first | (with_reducible exact Below.refl _ _) | (with_reducible assumption) | (with_reducible refine Below.ext ?_ (by first | omega | (simp; done) | (simp; omega)) _ _) | (with_reducible refine Below.alloc ?_ (by first | omega | (simp; done) | (simp; omega)) _) | (with_reducible refine Below.setCell ?_ (by first | omega | (simp; done) | (simp; omega)) _) | (with_reducible refine Below.drew ?_) | (with_reducible refine Below.drewN ?_ _)))⟩
  all_goals first | (rw [clean_name _ _ _ _ _ (by omega)]; exact IsC.mk _ _ _ _ _ _ _ _ (hn _)) | (rw [clean_data _ _ _ _ _ (by omega)]; exact IsC.mk _ _ _ _ _ _ _ _ (hH.out.mono (by repeat (first | (with_reducible exact Below.refl _ _) | (with_reducible assumption) | (with_reducible refine Below.ext ?_ (by first | omega | (simp; done) | (simp; omega)) _ _) | (with_reducible refine Below.alloc ?_ (by first | omega | (simp; done) | (simp; omega)) _) | (with_reducible refine Below.setCell ?_ (by first | omega | (simp; done) | (simp; omega)) _) | (with_reducible refine Below.drew ?_) | (with_reducible refine Below.drewN ?_ _))))) | (rw [clean_bare _ _ _ _ _ (by omega)]; exact IsC.mk _ _ _ _ _ _ _ _ (hn _))
theorem Cm.ok_clean {c : Cm} (h : c.ok = true) : c.clean = c := by
  obtain ⟨k, r, co, n, d⟩ := c
  rcases Cm.ok_cases h with ⟨g, h1, h2, h3, h4, h5, h6⟩ | ⟨g, h1, h2, h3, h4, h5⟩ | ⟨g, h1, h2, h3, h4⟩ | ⟨g, h1, h2, h3, h4⟩ <;> simp only at *
  · subst g h5 h6; simp [Cm.clean]
  · subst h1 h2 h5; rw [clean_name _ _ _ _ _ g]
  · subst h1 h2 h3; rw [clean_data _ _ _ _ _ g]
  · subst h1 h2 h3 h4; rw [clean_bare _ _ _ _ _ (by omega)]
/-- As the reference puts it. -/
def Cm.rok (c : Cm) : Bool :=
  decide (1 ≤ c.kind ∧ c.kind ≤ 9) && (c.same c.clean &&
    (if c.kind = 1 then decide (1 ≤ c.rows ∧ c.rows ≤ 30 ∧ 1 ≤ c.cols ∧ c.cols ≤ 100)
     else if c.kind = 2 ∨ c.kind = 4 ∨ c.kind = 5 ∨ c.kind = 6 then decide (1 ≤ c.name.length ∧ c.name.length ≤ 32)
     else decide (c.data.length ≤ 4095)))
theorem Cm.rok_eq (c : Cm) : c.rok = c.ok := by
  obtain ⟨k, r, co, n, d⟩ := c
  have h : k = 1 ∨ (k = 2 ∨ k = 4 ∨ k = 5 ∨ k = 6) ∨ (k = 3 ∨ k = 7) ∨ (k = 8 ∨ k = 9) ∨ (k < 1 ∨ 9 < k) := by omega
  rw [Bool.eq_iff_iff]
  rcases h with rfl | h | h | h | h
  · simp [Cm.rok, Cm.ok, Cm.clean, Cm.same]
    constructor <;> (intro h; simp_all)
  · have e := clean_name k r co n d h
    simp only [Cm.rok, e]
    rcases h with rfl | rfl | rfl | rfl <;> simp [Cm.ok, Cm.same] <;> (constructor <;> (intro h; simp_all))
  · have e := clean_data k r co n d h
    simp only [Cm.rok, e]
    rcases h with rfl | rfl <;> simp [Cm.ok, Cm.same] <;> (constructor <;> (intro h; simp_all))
  · have e := clean_bare k r co n d (by omega)
    simp only [Cm.rok, e]
    rcases h with rfl | rfl <;> simp [Cm.ok, Cm.same] <;> intros <;> simp_all
  · have n1 : k ≠ 1 := by omega
    have n2 : ¬ (k = 2 ∨ k = 4 ∨ k = 5 ∨ k = 6) := by omega
    have n3 : ¬ (k = 3 ∨ k = 7) := by omega
    have n4 : ¬ (k = 8 ∨ k = 9) := by omega
    simp [Cm.rok, Cm.ok, n1, n2, n3, n4]
    omega
end Go.Proofs.Ytkkdnaabfalpoaa
