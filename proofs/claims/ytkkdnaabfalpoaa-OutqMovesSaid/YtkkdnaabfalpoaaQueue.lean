/- Layer 29, the program's functions and the reference's: what they compute. -/
import Derived.Test.YtkkdnaabfalpoaaLib
namespace Go.Proofs.Ytkkdnaabfalpoaa
open Go.RowKit
set_option linter.unusedSimpArgs false
set_option linter.unusedVariables false
structure Qu where
  lim : Int
  data : List UInt8
  rs : Int
def IsQ (lo : Nat) (w : World) (v : Value) (q : Qu) : Prop := ∃ dv, v = .agg #[.int .i64 q.lim, dv, .int .i64 q.rs] ∧ Bs lo w dv q.data
theorem IsQ.mono {lo : Nat} {w w' : World} {v : Value} {q : Qu} (h : IsQ lo w v q) (hb : Ext w w') : IsQ lo w' v q := by
  obtain ⟨dv, rfl, h⟩ := h; exact ⟨dv, rfl, h.mono hb⟩
theorem IsQ.weak {lo lo' : Nat} {w : World} {v : Value} {q : Qu} (h : IsQ lo w v q) (hb : lo' ≤ lo) : IsQ lo' w v q := by
  obtain ⟨dv, rfl, h⟩ := h; exact ⟨dv, rfl, h.weak hb⟩
def Qu.push (q : Qu) (d f : List UInt8) : Qu :=
  if (q.data.length : Int) + d.length ≤ q.lim then { q with data := q.data ++ d } else { q with data := f, rs := wrap64 (q.rs + 1) }

set_option maxRecDepth 100000 in
set_option maxHeartbeats 800000 in
theorem push_any (lo : Nat) (q : Qu) (qv v1 v2 : Value) (d f : List UInt8) (w : World) (hq : IsQ lo w qv q) (h1 : Bs lo w v1 d) (h2 : Bs lo w v2 f) (hn : q.data.length + d.length ≤ 1000000) (hf : f.length ≤ 1000000) :
    Calls Try.prog 14 #[qv, v1, v2] w fun e w' => ∃ v', e = .returned v' ∧ IsQ w.heap.size w' v' (q.push d f) ∧ Ext w w' := by
  obtain ⟨dv, rfl, h0⟩ := hq
  obtain ⟨a0, p0, rfl, _⟩ := h0.shape
  obtain ⟨a1, p1, rfl, _⟩ := h1.shape
  by_cases hc : (q.data.length : Int) + d.length ≤ q.lim
  · go_enter Try.func14, Try.ntmps14
    go_wp2_with fail
    refine Calls.mono (concat2_any lo _ _ _ q.data d _ (by simp [go_sem]) (by simp [go_sem]) (h0.mono (by repeat (first | (with_reducible exact Below.refl _ _) | (with_reducible assumption) | (with_reducible refine Below.ext ?_ (by first | omega | (simp; done) | (simp; omega)) _ _) | (with_reducible refine Below.alloc ?_ (by first | omega | (simp; done) | (simp; omega)) _) | (with_reducible refine Below.setCell ?_ (by first | omega | (simp; done) | (simp; omega)) _) | (with_reducible refine Below.drew ?_)))) (h1.mono (by repeat (first | (with_reducible exact Below.refl _ _) | (with_reducible assumption) | (with_reducible refine Below.ext ?_ (by first | omega | (simp; done) | (simp; omega)) _ _) | (with_reducible refine Below.alloc ?_ (by first | omega | (simp; done) | (simp; omega)) _) | (with_reducible refine Below.setCell ?_ (by first | omega | (simp; done) | (simp; omega)) _) | (with_reducible refine Below.drew ?_)))) hn) ?_
    rintro e w1 ⟨v', rfl, ho, hb⟩
    obtain ⟨a', p', rfl, _⟩ := ho.shape
    obtain ⟨t, dr, rfl⟩ := hb.form
    go_wp2_with fail
    go_returns
    exact ⟨_, rfl, ⟨.slice a' (q.data.length + d.length) p', by simp [Qu.push, hc], by simpa [Qu.push, hc] using (ho.tail (by simp) (by first | omega | (simp; done) | (simp; omega))).weak (by first | omega | (simp; done) | (simp; omega))⟩, (by repeat (first | (with_reducible exact Below.refl _ _) | (with_reducible assumption) | (with_reducible refine Below.ext ?_ (by first | omega | (simp; done) | (simp; omega)) _ _) | (with_reducible refine Below.alloc ?_ (by first | omega | (simp; done) | (simp; omega)) _) | (with_reducible refine Below.setCell ?_ (by first | omega | (simp; done) | (simp; omega)) _) | (with_reducible refine Below.drew ?_)))⟩
  · go_enter Try.func14, Try.ntmps14
    go_wp2_with fail
    refine Calls.mono (clone_any lo _ f _ (h2.mono (by repeat (first | (with_reducible exact Below.refl _ _) | (with_reducible assumption) | (with_reducible refine Below.ext ?_ (by first | omega | (simp; done) | (simp; omega)) _ _) | (with_reducible refine Below.alloc ?_ (by first | omega | (simp; done) | (simp; omega)) _) | (with_reducible refine Below.setCell ?_ (by first | omega | (simp; done) | (simp; omega)) _) | (with_reducible refine Below.drew ?_)))) (fits _ _ (by omega) (by decide))) ?_
    rintro e w1 ⟨v', rfl, ho, hb⟩
    obtain ⟨a', p', rfl, _⟩ := ho.shape
    obtain ⟨t, dr, rfl⟩ := hb.form
    go_wp2_with fail
    go_returns
    exact ⟨_, rfl, ⟨.slice a' f.length p', by simp [Qu.push, Int.not_le.2 hc], by simpa [Qu.push, Int.not_le.2 hc] using (ho.tail (by simp) (by first | omega | (simp; done) | (simp; omega))).weak (by first | omega | (simp; done) | (simp; omega))⟩, (by repeat (first | (with_reducible exact Below.refl _ _) | (with_reducible assumption) | (with_reducible refine Below.ext ?_ (by first | omega | (simp; done) | (simp; omega)) _ _) | (with_reducible refine Below.alloc ?_ (by first | omega | (simp; done) | (simp; omega)) _) | (with_reducible refine Below.setCell ?_ (by first | omega | (simp; done) | (simp; omega)) _) | (with_reducible refine Below.drew ?_)))⟩

set_option maxRecDepth 100000 in
set_option maxHeartbeats 800000 in
theorem rpush_any (lo : Nat) (q : Qu) (qv v1 v2 : Value) (d f : List UInt8) (w : World) (hq : IsQ lo w qv q) (h1 : Bs lo w v1 d) (h2 : Bs lo w v2 f) (hn : q.data.length + d.length ≤ 1000000) (hf : f.length ≤ 1000000) :
    Calls Try.prog 15 #[qv, v1, v2] w fun e w' => ∃ v', e = .returned v' ∧ IsQ w.heap.size w' v' (q.push d f) ∧ Ext w w' := by
  obtain ⟨dv, rfl, h0⟩ := hq
  obtain ⟨a0, p0, rfl, _⟩ := h0.shape
  obtain ⟨a1, p1, rfl, _⟩ := h1.shape
  obtain ⟨a2, p2, rfl, _⟩ := h2.shape
  obtain ⟨W, hW⟩ : ∃ W, W = ((w.alloc (.cells #[.int .i64 q.lim, .slice a0 q.data.length p0, .int .i64 q.rs] 33)).alloc (.cells #[.int .i64 0, .slice none 0 0, .int .i64 0] 33)) := ⟨_, rfl⟩
  have hs : W.heap.size = w.heap.size + 1 + 1 := by rw [hW]; simp
  have hE : Ext w W := by rw [hW]; exact (by repeat (first | (with_reducible exact Below.refl _ _) | (with_reducible assumption) | (with_reducible refine Below.ext ?_ (by first | omega | (simp; done) | (simp; omega)) _ _) | (with_reducible refine Below.alloc ?_ (by first | omega | (simp; done) | (simp; omega)) _) | (with_reducible refine Below.setCell ?_ (by first | omega | (simp; done) | (simp; omega)) _) | (with_reducible refine Below.drew ?_)))
  have g0 := Lib.hid (h0.mono hE)
  have g1 := Lib.hid (h1.mono hE)
  have g2 := Lib.hid (h2.mono hE)
  by_cases hc : (q.data.length : Int) + d.length ≤ q.lim
  · have hO := Lib.hid (Ob.new W (w.heap.size + 1 + 1) (w.heap.size + 1 + 1) 5 hs.symm (Nat.le_of_eq hs.symm))
    have g0' := Lib.hid (g0.out.mono (Ext.al W (.cells #[] 5)))
    rw [hW] at hO g0' g1
    go_enter Try.func15, Try.ntmps15
    clear hW hs hE g0 g2
    go_wp2_with (at_builtin; refine wpList_append_bytes _ _ _ rfl (.tmp 16) (.tmp 18) 24 rfl 5 elB _ _ rfl hO.out lo _ _ rfl g0'.out q.data _ rfl rfl (by omega) (Ext.al _ _) (by simp) ?_)
    intro a3 p3 t3 d3 ho3 hb3
    have g1' := Lib.hid (g1.out.mono (Ext.ext _ t3 d3))
    clear hb3
    go_wp2_with (at_builtin; refine wpList_append_bytes _ _ _ rfl (.tmp 19) (.tmp 20) 24 rfl 5 elB _ _ rfl ho3 lo _ _ rfl g1'.out (q.data ++ d) (q.data.length + d.length) rfl (by simp) (by omega) (Ext.ext _ _ _) (by simp) ?_)
    intro a' p' t dr ho hb
    go_wp2_with fail
    go_returns
    exact ⟨_, rfl, ⟨.slice a' (q.data.length + d.length) p', by simp [Qu.push, hc], by simpa [Qu.push, hc] using (ho.bs.tail (by simp) (by first | omega | (simp; done) | (simp; omega))).weak (by first | omega | (simp; done) | (simp; omega))⟩, (by repeat (first | (with_reducible exact Below.refl _ _) | (with_reducible assumption) | (with_reducible refine Below.ext ?_ (by first | omega | (simp; done) | (simp; omega)) _ _) | (with_reducible refine Below.alloc ?_ (by first | omega | (simp; done) | (simp; omega)) _) | (with_reducible refine Below.setCell ?_ (by first | omega | (simp; done) | (simp; omega)) _) | (with_reducible refine Below.drew ?_)))⟩
  · have hO := Lib.hid (Ob.new W (w.heap.size + 1 + 1) (w.heap.size + 1 + 1) 5 hs.symm (Nat.le_of_eq hs.symm)).drew
    have g2' := Lib.hid (g2.out.mono (Ext.al W (.cells #[] 5)).drew)
    rw [hW] at hO g2'
    go_enter Try.func15, Try.ntmps15
    clear hW hs hE g0 g1 g2
    go_wp2_with fail
    go_region_law (refine step_append_bytes _ _ _ rfl (.tmp 24) (.tmp 25) 24 rfl 5 elB _ [] (by simp [Act.eval, Act.put]) hO.out lo (.slice a2 f.length p2) f (by simp [Act.eval, Act.put]) g2'.out f f.length rfl rfl (by omega) (Ext.al _ _).drew (by simp) ?_; intro a' p' t dr ho hb)
    all_goals
      go_wp2_with fail
      go_returns
      exact ⟨_, rfl, ⟨.slice a' f.length p', by simp [Qu.push, Int.not_le.2 hc], by simpa [Qu.push, Int.not_le.2 hc] using (ho.bs.tail (by simp) (by first | omega | (simp; done) | (simp; omega))).weak (by first | omega | (simp; done) | (simp; omega))⟩, (by repeat (first | (with_reducible exact Below.refl _ _) | (with_reducible assumption) | (with_reducible refine Below.ext ?_ (by first | omega | (simp; done) | (simp; omega)) _ _) | (with_reducible refine Below.alloc ?_ (by first | omega | (simp; done) | (simp; omega)) _) | (with_reducible refine Below.setCell ?_ (by first | omega | (simp; done) | (simp; omega)) _) | (with_reducible refine Below.drew ?_)))⟩
def Qu.cut (q : Qu) (n : Int) : Nat := (min (max n 0) q.data.length).toNat
set_option maxRecDepth 100000 in
set_option maxHeartbeats 800000 in
theorem take_core (lo : Nat) (q : Qu) (qv : Value) (n : Int) (k : Nat) (w : World) (hq : IsQ lo w qv q) (hn : q.data.length ≤ 1000000) (hk : k ≤ q.data.length) (hc : (n < 0 ∧ k = 0) ∨ n = (k : Int) ∨ ((q.data.length : Int) < n ∧ k = q.data.length)) :
    Calls Try.prog 16 #[qv, .int .i64 n] w fun e w' => ∃ v' b', e = .returned (.tuple #[v', b']) ∧ IsQ w.heap.size w' v' { q with data := q.data.drop k } ∧ Bs w.heap.size w' b' (q.data.take k) ∧ Ext w w' := by
  obtain ⟨dv, rfl, h0⟩ := hq
  obtain ⟨a0, p0, rfl, hp⟩ := h0.shape
  have hkp : k ≤ p0 := by omega
  have H0 := Lib.hid h0
  clear h0
  rcases hc with ⟨hc, rfl⟩ | rfl | ⟨hc, rfl⟩
  all_goals rcases Nat.eq_or_lt_of_le hkp with hpk | hpk
  all_goals (try subst hpk)
  all_goals
    go_enter Try.func16, Try.ntmps16
    go_wp2_with fail
    refine Calls.mono (clone_any lo _ _ _ ((H0.out.take _ (by omega)).mono (by repeat (first | (with_reducible exact Below.refl _ _) | (with_reducible assumption) | (with_reducible refine Below.ext ?_ (by first | omega | (simp; done) | (simp; omega)) _ _) | (with_reducible refine Below.alloc ?_ (by first | omega | (simp; done) | (simp; omega)) _) | (with_reducible refine Below.setCell ?_ (by first | omega | (simp; done) | (simp; omega)) _) | (with_reducible refine Below.drew ?_)))) (fits _ _ (by first | omega | (simp; done) | (simp; omega)) (by decide))) ?_
    rintro e w1 ⟨v', rfl, ho, hb⟩
    obtain ⟨a', p', rfl, _⟩ := ho.shape
    obtain ⟨t, dr, rfl⟩ := hb.form
    go_wp2_with fail
  all_goals
    have ho1 := Lib.hid ho
    clear ho hb
    refine Calls.mono (clone_any lo _ (q.data.drop _) _ ((H0.out.dropAny _ hk _ _ _ (by omega) (by first | exact Or.inr (Or.inr ⟨rfl, rfl, rfl⟩) | exact Or.inl ⟨rfl, by omega, rfl⟩ | exact Or.inr (Or.inl ⟨rfl, rfl, by omega⟩))).mono (by repeat (first | (with_reducible exact Below.refl _ _) | (with_reducible assumption) | (with_reducible refine Below.ext ?_ (by first | omega | (simp; done) | (simp; omega)) _ _) | (with_reducible refine Below.alloc ?_ (by first | omega | (simp; done) | (simp; omega)) _) | (with_reducible refine Below.setCell ?_ (by first | omega | (simp; done) | (simp; omega)) _) | (with_reducible refine Below.drew ?_)))) (fits _ _ (by first | omega | (simp; done) | (simp; omega)) (by decide))) ?_
    rintro e w1 ⟨v', rfl, ho, hb⟩
    obtain ⟨a'', p'', rfl, _⟩ := ho.shape
    have ho2 := Lib.hid (ho1.out.mono hb)
    obtain ⟨t2, dr2, rfl⟩ := hb.form2
    go_wp2_with fail
    refine bodyPost_ret (by simp [results, Try.results16, go_sem]; try rfl) rfl ?_
    refine ⟨_, _, rfl, ⟨_, rfl, ?_⟩, ?_, (by repeat (first | (with_reducible exact Below.refl _ _) | (with_reducible assumption) | (with_reducible refine Below.ext ?_ (by first | omega | (simp; done) | (simp; omega)) _ _) | (with_reducible refine Below.alloc ?_ (by first | omega | (simp; done) | (simp; omega)) _) | (with_reducible refine Below.setCell ?_ (by first | omega | (simp; done) | (simp; omega)) _) | (with_reducible refine Below.drew ?_)))⟩
    · exact ho.fin (by simp) (by first | omega | (simp; done) | (simp; omega)) (by first | omega | (simp; done) | (simp; omega)) (by first | (with_reducible rfl) | (simp; done) | (simp; omega)) (by first | (with_reducible rfl) | (simp; done) | (simp; omega))
    · exact ho2.out.fin (by simp) (by first | omega | (simp; done) | (simp; omega)) (by first | omega | (simp; done) | (simp; omega)) (by first | (with_reducible rfl) | (simp; done) | (simp; omega)) (by first | (with_reducible rfl) | (simp; done) | (simp; omega))

theorem Qu.cut_cases (q : Qu) (n : Int) : q.cut n ≤ q.data.length ∧ ((n < 0 ∧ q.cut n = 0) ∨ n = (q.cut n : Int) ∨ ((q.data.length : Int) < n ∧ q.cut n = q.data.length)) := by
  unfold Qu.cut; omega
def Qu.rest (q : Qu) (n : Int) : Qu := { q with data := q.data.drop (q.cut n) }
theorem take_any (lo : Nat) (q : Qu) (qv : Value) (n : Int) (w : World) (hq : IsQ lo w qv q) (hn : q.data.length ≤ 1000000) :
    Calls Try.prog 16 #[qv, .int .i64 n] w fun e w' => ∃ v' b', e = .returned (.tuple #[v', b']) ∧ IsQ w.heap.size w' v' (q.rest n) ∧ Bs w.heap.size w' b' (q.data.take (q.cut n)) ∧ Ext w w' :=
  take_core lo q qv n _ w hq hn (q.cut_cases n).1 (q.cut_cases n).2

set_option maxRecDepth 100000 in
set_option maxHeartbeats 800000 in
theorem rtake_core (lo : Nat) (q : Qu) (qv : Value) (n : Int) (k : Nat) (w : World) (hq : IsQ lo w qv q) (hn : q.data.length ≤ 1000000) (hk : k ≤ q.data.length) (hc : (n < 0 ∧ k = 0) ∨ n = (k : Int) ∨ ((q.data.length : Int) < n ∧ k = q.data.length)) :
    Calls Try.prog 17 #[qv, .int .i64 n] w fun e w' => ∃ v' b', e = .returned (.tuple #[v', b']) ∧ IsQ w.heap.size w' v' { q with data := q.data.drop k } ∧ Bs w.heap.size w' b' (q.data.take k) ∧ Ext w w' := by
  obtain ⟨dv, rfl, h0⟩ := hq
  obtain ⟨a0, p0, rfl, hp⟩ := h0.shape
  have hkp : k ≤ p0 := by omega
  have H0 := Lib.hid h0
  clear h0
  have hc' : (n ≤ 0 ∧ k = 0) ∨ (n = (k : Int) ∧ 0 < k) ∨ ((q.data.length : Int) < n ∧ k = q.data.length ∧ 0 < q.data.length) ∨ (0 < n ∧ q.data.length = 0 ∧ k = 0) := by omega
  clear hc
  rcases hc' with ⟨hc, rfl⟩ | ⟨rfl, hc⟩ | ⟨hc, rfl, hl⟩ | ⟨hc, hl, rfl⟩
  all_goals rcases Nat.eq_or_lt_of_le hkp with hpk | hpk
  all_goals (try subst hpk)
  all_goals
    go_enter Try.func17, Try.ntmps17
    go_wp2_with (at_builtin; refine wpList_append_bytes _ _ (w.heap.size + 1 + 1) rfl (.tmp 13) (.tmp 17) 24 rfl 5 elB _ _ rfl (Ob.new _ _ _ _ (by simp) (by first | omega | (simp; done) | (simp; omega))) lo _ _ rfl ((H0.out.take _ hk).mono (by repeat (first | (with_reducible exact Below.refl _ _) | (with_reducible assumption) | (with_reducible refine Below.ext ?_ (by first | omega | (simp; done) | (simp; omega)) _ _) | (with_reducible refine Below.alloc ?_ (by first | omega | (simp; done) | (simp; omega)) _) | (with_reducible refine Below.setCell ?_ (by first | omega | (simp; done) | (simp; omega)) _) | (with_reducible refine Below.drew ?_)))) (q.data.take _) _ rfl rfl (by first | omega | (simp; done) | (simp; omega)) (Ext.al _ _) (by simp) ?_)
    intro a1 p1 t1 d1 ho1 hb1
    clear hb1
    have ho2 := Lib.hid ho1
    clear ho1
    go_wp2_with (at_builtin; refine wpList_append_bytes _ _ (w.heap.size + 1 + 1 + t1.size) rfl (.tmp 19) (.tmp 23) 24 rfl 5 elB _ _ rfl (Ob.new _ _ _ _ (by simp) (by first | omega | (simp; done) | (simp; omega))) lo _ _ rfl ((H0.out.dropAny _ hk _ _ _ (by omega) (by first | exact Or.inr (Or.inr ⟨rfl, rfl, rfl⟩) | exact Or.inl ⟨rfl, by omega, rfl⟩ | exact Or.inr (Or.inl ⟨rfl, rfl, by omega⟩))).mono (by repeat (first | (with_reducible exact Below.refl _ _) | (with_reducible assumption) | (with_reducible refine Below.ext ?_ (by first | omega | (simp; done) | (simp; omega)) _ _) | (with_reducible refine Below.alloc ?_ (by first | omega | (simp; done) | (simp; omega)) _) | (with_reducible refine Below.setCell ?_ (by first | omega | (simp; done) | (simp; omega)) _) | (with_reducible refine Below.drew ?_)))) (q.data.drop _) _ rfl rfl (by first | omega | (simp; done) | (simp; omega)) (Ext.al _ _) (by simp) ?_)
    intro a2 p2 t2 d2 ho hb
    have ho3 := ho2.out.mono (Ext.app _ t1 t2 d1 d2)
    go_wp2_with fail
    refine bodyPost_ret (by simp [results, Try.results17, go_sem]; try rfl) rfl ?_
    refine ⟨_, _, rfl, ⟨_, rfl, ?_⟩, ?_, (by repeat (first | (with_reducible exact Below.refl _ _) | (with_reducible assumption) | (with_reducible refine Below.ext ?_ (by first | omega | (simp; done) | (simp; omega)) _ _) | (with_reducible refine Below.alloc ?_ (by first | omega | (simp; done) | (simp; omega)) _) | (with_reducible refine Below.setCell ?_ (by first | omega | (simp; done) | (simp; omega)) _) | (with_reducible refine Below.drew ?_)))⟩
    · exact ho.bs.fin (by simp) (by first | omega | (simp; done) | (simp; omega)) (by first | omega | (simp; done) | (simp; omega)) (by first | (with_reducible rfl) | (simp; done) | (simp; omega)) (by first | (with_reducible rfl) | (simp; done) | (simp; omega))
    · exact ho3.bs.fin (by simp) (by first | omega | (simp; done) | (simp; omega)) (by first | omega | (simp; done) | (simp; omega)) (by first | (with_reducible rfl) | (simp; done) | (simp; omega)) (by first | (with_reducible rfl) | (simp; done) | (simp; omega))
theorem rtake_any (lo : Nat) (q : Qu) (qv : Value) (n : Int) (w : World) (hq : IsQ lo w qv q) (hn : q.data.length ≤ 1000000) :
    Calls Try.prog 17 #[qv, .int .i64 n] w fun e w' => ∃ v' b', e = .returned (.tuple #[v', b']) ∧ IsQ w.heap.size w' v' (q.rest n) ∧ Bs w.heap.size w' b' (q.data.take (q.cut n)) ∧ Ext w w' :=
  rtake_core lo q qv n _ w hq hn (q.cut_cases n).1 (q.cut_cases n).2

set_option maxRecDepth 100000 in
set_option maxHeartbeats 800000 in
theorem qsame_any (lo lo2 : Nat) (p q : Qu) (pv qv : Value) (w : World) (hp : IsQ lo w pv p) (hq : IsQ lo2 w qv q) :
    Calls Try.prog 13 #[pv, qv] w fun e w' => e = .returned (.bool (p.lim == q.lim && (p.rs == q.rs && p.data == q.data))) ∧ Ext w w' := by
  obtain ⟨dv, rfl, h0⟩ := hp
  obtain ⟨dv2, rfl, h1⟩ := hq
  obtain ⟨a0, p0, rfl, _⟩ := h0.shape
  obtain ⟨a1, p1, rfl, _⟩ := h1.shape
  have c0 : ∀ X Y, (convert 24 9 (.slice a0 p.data.length p0)).run Try.prog ((w.alloc X).alloc Y) = .ok (.string (bs p.data)) ((w.alloc X).alloc Y) := fun X Y => run_string_bs _ lo _ _ _ _ _ Try.underlying24 Try.underlying5 Try.underlying9 (h0.mono (by repeat (first | (with_reducible exact Below.refl _ _) | (with_reducible assumption) | (with_reducible refine Below.ext ?_ (by first | omega | (simp; done) | (simp; omega)) _ _) | (with_reducible refine Below.alloc ?_ (by first | omega | (simp; done) | (simp; omega)) _) | (with_reducible refine Below.setCell ?_ (by first | omega | (simp; done) | (simp; omega)) _) | (with_reducible refine Below.drew ?_))))
  have c1 : ∀ X Y, (convert 24 9 (.slice a1 q.data.length p1)).run Try.prog ((w.alloc X).alloc Y) = .ok (.string (bs q.data)) ((w.alloc X).alloc Y) := fun X Y => run_string_bs _ lo2 _ _ _ _ _ Try.underlying24 Try.underlying5 Try.underlying9 (h1.mono (by repeat (first | (with_reducible exact Below.refl _ _) | (with_reducible assumption) | (with_reducible refine Below.ext ?_ (by first | omega | (simp; done) | (simp; omega)) _ _) | (with_reducible refine Below.alloc ?_ (by first | omega | (simp; done) | (simp; omega)) _) | (with_reducible refine Below.setCell ?_ (by first | omega | (simp; done) | (simp; omega)) _) | (with_reducible refine Below.drew ?_))))
  clear h0 h1
  by_cases k1 : p.lim = q.lim
  · by_cases k2 : p.rs = q.rs
    · have b1 : (p.lim == q.lim) = true := by simp [k1]
      have b2 : (p.rs == q.rs) = true := by simp [k2]
      clear k1 k2
      go_enter Try.func13, Try.ntmps13
      go_wp2_with fail
      go_ret
      exact ⟨by rw [b1, b2]; simp, (by repeat (first | (with_reducible exact Below.refl _ _) | (with_reducible assumption) | (with_reducible refine Below.ext ?_ (by first | omega | (simp; done) | (simp; omega)) _ _) | (with_reducible refine Below.alloc ?_ (by first | omega | (simp; done) | (simp; omega)) _) | (with_reducible refine Below.setCell ?_ (by first | omega | (simp; done) | (simp; omega)) _) | (with_reducible refine Below.drew ?_)))⟩
    · have b1 : (p.lim == q.lim) = true := by simp [k1]
      have b2 : (p.rs == q.rs) = false := by simp [k2]
      clear k1 k2
      go_enter Try.func13, Try.ntmps13
      go_wp2_with fail
      go_ret
      exact ⟨by rw [b1, b2]; simp, (by repeat (first | (with_reducible exact Below.refl _ _) | (with_reducible assumption) | (with_reducible refine Below.ext ?_ (by first | omega | (simp; done) | (simp; omega)) _ _) | (with_reducible refine Below.alloc ?_ (by first | omega | (simp; done) | (simp; omega)) _) | (with_reducible refine Below.setCell ?_ (by first | omega | (simp; done) | (simp; omega)) _) | (with_reducible refine Below.drew ?_)))⟩
  · have b1 : (p.lim == q.lim) = false := by simp [k1]
    clear k1
    go_enter Try.func13, Try.ntmps13
    go_wp2_with fail
    go_ret
    exact ⟨by rw [b1]; simp, (by repeat (first | (with_reducible exact Below.refl _ _) | (with_reducible assumption) | (with_reducible refine Below.ext ?_ (by first | omega | (simp; done) | (simp; omega)) _ _) | (with_reducible refine Below.alloc ?_ (by first | omega | (simp; done) | (simp; omega)) _) | (with_reducible refine Below.setCell ?_ (by first | omega | (simp; done) | (simp; omega)) _) | (with_reducible refine Below.drew ?_)))⟩

end Go.Proofs.Ytkkdnaabfalpoaa
