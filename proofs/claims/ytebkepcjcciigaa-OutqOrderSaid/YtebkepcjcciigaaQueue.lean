/- Layer 29, the program's functions and the reference's: what they compute. -/
import Derived.Test.YtebkepcjcciigaaLib
namespace Go.Proofs.Ytebkepcjcciigaa
open Go.RowKit
set_option linter.unusedSimpArgs false
set_option linter.unusedVariables false
structure Qu where
  lim : Int
  data : List UInt8
  rs : Int
def IsQ (lo : Nat) (w : World) (v : Value) (q : Qu) : Prop := ∃ dv, v = .agg #[.int .i64 q.lim, dv, .int .i64 q.rs] ∧ Bs lo w dv q.data
theorem IsQ.mono {lo : Nat} {w w' : World} {v : Value} {q : Qu} (h : IsQ lo w v q) (hb : Ext w w') : IsQ lo w' v q := by
  obtain ⟨dv, rfl, h⟩ := h; exact ⟨dv, rfl, h.mono hb⟩
theorem IsQ.weak {lo lo' : Nat} {w : World} {v : Value} {q : Qu} (h : IsQ lo w v q) (hb : lo' ≤ lo) : IsQ lo' w v q := by
  obtain ⟨dv, rfl, h⟩ := h; exact ⟨dv, rfl, h.weak hb⟩
def Qu.push (q : Qu) (d f : List UInt8) : Qu :=
  if (q.data.length : Int) + d.length ≤ q.lim then { q with data := q.data ++ d } else { q with data := f, rs := wrap64 (q.rs + 1) }

set_option maxRecDepth 100000 in
set_option maxHeartbeats 800000 in
theorem push_any (lo : Nat) (q : Qu) (qv v1 v2 : Value) (d f : List UInt8) (w : World) (hq : IsQ lo w qv q) (h1 : Bs lo w v1 d) (h2 : Bs lo w v2 f) (hn : q.data.length + d.length ≤ 1000000) (hf : f.length ≤ 1000000) :
    Calls Try.prog 14 #[qv, v1, v2] w fun e w' => ∃ v', e = .returned v' ∧ IsQ w.heap.size w' v' (q.push d f) ∧ Ext w w' := by
  obtain ⟨dv, rfl, h0⟩ := hq
  obtain ⟨a0, p0, rfl, _⟩ := h0.shape
  obtain ⟨a1, p1, rfl, _⟩ := h1.shape
  by_cases hc : (q.data.length : Int) + d.length ≤ q.lim
  · go_enter Try.func14, Try.ntmps14
    go_wp2_with fail
    refine Calls.mono (concat2_any lo _ _ _ q.data d _ (by simp [go_sem]) (by simp [go_sem]) (h0.mono (by repeat (first | (with_reducible exact Below.refl _ _) | (with_reducible assumption) | (with_reducible refine Below.ext ?_ (by first | omega | (simp; done) | (simp; omega)) _ _) | (with_reducible refine Below.alloc ?_ (by first | omega | (simp; done) | (simp; omega)) _) | (with_reducible refine Below.setCell ?_ (by first | omega | (simp; done) | (simp; omega)) _) | (with_reducible refine Below.drew ?_) | (with_reducible refine Below.drewN ?_ _)))) (h1.mono (by repeat (first | (with_reducible exact Below.refl _ _) | (with_reducible assumption) | (with_reducible refine Below.ext ?_ (by first | omega | (simp; done) | (simp; omega)) _ _) | (with_reducible refine Below.alloc ?_ (by first | omega | (simp; done) | (simp; omega)) _) | (with_reducible refine Below.setCell ?_ (by first | omega | (simp; done) | (simp; omega)) _) | (with_reducible refine Below.drew ?_) | (with_reducible refine Below.drewN ?_ _)))) hn) ?_
    rintro e w1 ⟨v', rfl, ho, hb⟩
    obtain ⟨a', p', rfl, _⟩ := ho.shape
    obtain ⟨t, dr, rfl⟩ := hb.form
    go_wp2_with fail
    go_returns
    exact ⟨_, rfl, ⟨.slice a' (q.data.length + d.length) p', by simp [Qu.push, hc], by simpa [Qu.push, hc] using (ho.tail (by simp) (by first | omega | (simp; done) | (simp; omega))).weak (by first | omega | (simp; done) | (simp; omega))⟩, (by repeat (first | (with_reducible exact Below.refl _ _) | (with_reducible assumption) | (with_reducible refine Below.ext ?_ (by first | omega | (simp; done) | (simp; omega)) _ _) | (with_reducible refine Below.alloc ?_ (by first | omega | (simp; done) | (simp; omega)) _) | (with_reducible refine Below.setCell ?_ (by first | omega | (simp; done) | (simp; omega)) _) | (with_reducible refine Below.drew ?_) | (with_reducible refine Below.drewN ?_ _)))⟩
  · go_enter Try.func14, Try.ntmps14
    go_wp2_with fail
    refine Calls.mono (clone_any lo _ f _ (h2.mono (by repeat (first | (with_reducible exact Below.refl _ _) | (with_reducible assumption) | (with_reducible refine Below.ext ?_ (by first | omega | (simp; done) | (simp; omega)) _ _) | (with_reducible refine Below.alloc ?_ (by first | omega | (simp; done) | (simp; omega)) _) | (with_reducible refine Below.setCell ?_ (by first | omega | (simp; done) | (simp; omega)) _) | (with_reducible refine Below.drew ?_) | (with_reducible refine Below.drewN ?_ _)))) (fits _ _ (by omega) (by decide))) ?_
    rintro e w1 ⟨v', rfl, ho, hb⟩
    obtain ⟨a', p', rfl, _⟩ := ho.shape
    obtain ⟨t, dr, rfl⟩ := hb.form
    go_wp2_with fail
    go_returns
    exact ⟨_, rfl, ⟨.slice a' f.length p', by simp [Qu.push, Int.not_le.2 hc], by simpa [Qu.push, Int.not_le.2 hc] using (ho.tail (by simp) (by first | omega | (simp; done) | (simp; omega))).weak (by first | omega | (simp; done) | (simp; omega))⟩, (by repeat (first | (with_reducible exact Below.refl _ _) | (with_reducible assumption) | (with_reducible refine Below.ext ?_ (by first | omega | (simp; done) | (simp; omega)) _ _) | (with_reducible refine Below.alloc ?_ (by first | omega | (simp; done) | (simp; omega)) _) | (with_reducible refine Below.setCell ?_ (by first | omega | (simp; done) | (simp; omega)) _) | (with_reducible refine Below.drew ?_) | (with_reducible refine Below.drewN ?_ _)))⟩

def Qu.cut (q : Qu) (n : Int) : Nat := (min (max n 0) q.data.length).toNat
set_option maxRecDepth 100000 in
set_option maxHeartbeats 800000 in
theorem take_core (lo : Nat) (q : Qu) (qv : Value) (n : Int) (k : Nat) (w : World) (hq : IsQ lo w qv q) (hn : q.data.length ≤ 1000000) (hk : k ≤ q.data.length) (hc : (n < 0 ∧ k = 0) ∨ n = (k : Int) ∨ ((q.data.length : Int) < n ∧ k = q.data.length)) :
    Calls Try.prog 12 #[qv, .int .i64 n] w fun e w' => ∃ v' b', e = .returned (.tuple #[v', b']) ∧ IsQ w.heap.size w' v' { q with data := q.data.drop k } ∧ Bs w.heap.size w' b' (q.data.take k) ∧ Ext w w' := by
  obtain ⟨dv, rfl, h0⟩ := hq
  obtain ⟨a0, p0, rfl, hp⟩ := h0.shape
  have hkp : k ≤ p0 := by omega
  have H0 := Lib.hid h0
  clear h0
  rcases hc with ⟨hc, rfl⟩ | rfl | ⟨hc, rfl⟩
  all_goals rcases Nat.eq_or_lt_of_le hkp with hpk | hpk
  all_goals (try subst hpk)
  all_goals
    go_enter Try.func12, Try.ntmps12
    go_wp2_with fail
    refine Calls.mono (clone_any lo _ _ _ ((H0.out.take _ (by omega)).mono (by repeat (first | (with_reducible exact Below.refl _ _) | (with_reducible assumption) | (with_reducible refine Below.ext ?_ (by first | omega | (simp; done) | (simp; omega)) _ _) | (with_reducible refine Below.alloc ?_ (by first | omega | (simp; done) | (simp; omega)) _) | (with_reducible refine Below.setCell ?_ (by first | omega | (simp; done) | (simp; omega)) _) | (with_reducible refine Below.drew ?_) | (with_reducible refine Below.drewN ?_ _)))) (fits _ _ (by first | omega | (simp; done) | (simp; omega)) (by decide))) ?_
    rintro e w1 ⟨v', rfl, ho, hb⟩
    obtain ⟨a', p', rfl, _⟩ := ho.shape
    obtain ⟨t, dr, rfl⟩ := hb.form
    go_wp2_with fail
  all_goals
    have ho1 := Lib.hid ho
    clear ho hb
    refine Calls.mono (clone_any lo _ (q.data.drop _) _ ((H0.out.dropAny _ hk _ _ _ (by omega) (by first | exact Or.inr (Or.inr ⟨rfl, rfl, rfl⟩) | exact Or.inl ⟨rfl, by omega, rfl⟩ | exact Or.inr (Or.inl ⟨rfl, rfl, by omega⟩))).mono (by repeat (first | (with_reducible exact Below.refl _ _) | (with_reducible assumption) | (with_reducible refine Below.ext ?_ (by first | omega | (simp; done) | (simp; omega)) _ _) | (with_reducible refine Below.alloc ?_ (by first | omega | (simp; done) | (simp; omega)) _) | (with_reducible refine Below.setCell ?_ (by first | omega | (simp; done) | (simp; omega)) _) | (with_reducible refine Below.drew ?_) | (with_reducible refine Below.drewN ?_ _)))) (fits _ _ (by first | omega | (simp; done) | (simp; omega)) (by decide))) ?_
    rintro e w1 ⟨v', rfl, ho, hb⟩
    obtain ⟨a'', p'', rfl, _⟩ := ho.shape
    have ho2 := Lib.hid (ho1.out.mono hb)
    obtain ⟨t2, dr2, rfl⟩ := hb.form2
    go_wp2_with fail
    refine bodyPost_ret (by simp [results, Try.results12, go_sem]; try rfl) rfl ?_
    refine ⟨_, _, rfl, ⟨_, rfl, ?_⟩, ?_, (by repeat (first | (with_reducible exact Below.refl _ _) | (with_reducible assumption) | (with_reducible refine Below.ext ?_ (by first | omega | (simp; done) | (simp; omega)) _ _) | (with_reducible refine Below.alloc ?_ (by first | omega | (simp; done) | (simp; omega)) _) | (with_reducible refine Below.setCell ?_ (by first | omega | (simp; done) | (simp; omega)) _) | (with_reducible refine Below.drew ?_) | (with_reducible refine Below.drewN ?_ _)))⟩
    · exact ho.fin (by simp) (by first | omega | (simp; done) | (simp; omega)) (by first | omega | (simp; done) | (simp; omega)) (by first | (with_reducible rfl) | (simp; done) | (simp; omega)) (by first | (with_reducible rfl) | (simp; done) | (simp; omega))
    · exact ho2.out.fin (by simp) (by first | omega | (simp; done) | (simp; omega)) (by first | omega | (simp; done) | (simp; omega)) (by first | (with_reducible rfl) | (simp; done) | (simp; omega)) (by first | (with_reducible rfl) | (simp; done) | (simp; omega))

theorem Qu.cut_cases (q : Qu) (n : Int) : q.cut n ≤ q.data.length ∧ ((n < 0 ∧ q.cut n = 0) ∨ n = (q.cut n : Int) ∨ ((q.data.length : Int) < n ∧ q.cut n = q.data.length)) := by
  unfold Qu.cut; omega
def Qu.rest (q : Qu) (n : Int) : Qu := { q with data := q.data.drop (q.cut n) }
theorem take_any (lo : Nat) (q : Qu) (qv : Value) (n : Int) (w : World) (hq : IsQ lo w qv q) (hn : q.data.length ≤ 1000000) :
    Calls Try.prog 12 #[qv, .int .i64 n] w fun e w' => ∃ v' b', e = .returned (.tuple #[v', b']) ∧ IsQ w.heap.size w' v' (q.rest n) ∧ Bs w.heap.size w' b' (q.data.take (q.cut n)) ∧ Ext w w' :=
  take_core lo q qv n _ w hq hn (q.cut_cases n).1 (q.cut_cases n).2

end Go.Proofs.Ytebkepcjcciigaa
