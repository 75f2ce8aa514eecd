/- Layer 28: the payload of a command. -/
import Derived.Test.YtkkdnaabfalpoaaCmd
namespace Go.Proofs.Ytkkdnaabfalpoaa
open Go.RowKit
set_option linter.unusedSimpArgs false
set_option linter.unusedVariables false
def byte (n : Int) : UInt8 := UInt8.ofNat n.toNat
theorem byte_toNat {n : Int} (h0 : 0 ≤ n) (h1 : n ≤ 255) : ((byte n).toNat : Int) = n := by
  simp [byte]; omega
/-- The payload of a proper command. -/
def Cm.pay (c : Cm) : List UInt8 := byte c.kind :: ((if c.kind = 1 then [0, byte c.rows, 0, byte c.cols] else []) ++ (c.name ++ c.data))
theorem Cm.ok_cases {c : Cm} (h : c.ok = true) : (c.kind = 1 ∧ 1 ≤ c.rows ∧ c.rows ≤ 30 ∧ 1 ≤ c.cols ∧ c.cols ≤ 100 ∧ c.name = [] ∧ c.data = []) ∨
    ((c.kind = 2 ∨ c.kind = 4 ∨ c.kind = 5 ∨ c.kind = 6) ∧ c.rows = 0 ∧ c.cols = 0 ∧ 1 ≤ c.name.length ∧ c.name.length ≤ 32 ∧ c.data = []) ∨
    ((c.kind = 3 ∨ c.kind = 7) ∧ c.rows = 0 ∧ c.cols = 0 ∧ c.name = [] ∧ c.data.length ≤ 4095) ∨
    ((c.kind = 8 ∨ c.kind = 9) ∧ c.rows = 0 ∧ c.cols = 0 ∧ c.name = [] ∧ c.data = []) := by
  unfold Cm.ok at h
  split at h
  · left; simp at h; exact ⟨by assumption, h⟩
  · split at h
    · right; left; simp at h; exact ⟨by assumption, h⟩
    · split at h
      · right; right; left; simp at h; exact ⟨by assumption, h⟩
      · split at h
        · right; right; right; simp at h; exact ⟨by assumption, h⟩
        · simp at h
theorem isC_fields {lo : Nat} {w : World} {v : Value} {c : Cm} (h : IsC lo w v c) : ∃ ad cap, v = .agg #[.int .i64 c.kind, .int .i64 c.rows, .int .i64 c.cols, .string (bs c.name), .slice ad c.data.length cap] ∧ Bs lo w (.slice ad c.data.length cap) c.data := by
  obtain ⟨dv, rfl, h0⟩ := h
  obtain ⟨ad, cap, rfl, _⟩ := h0.shape
  exact ⟨ad, cap, rfl, h0⟩
theorem IsC.mk (lo : Nat) (w : World) (a b c : Int) (n l : List UInt8) (v : Value) (h : Bs lo w v l) : IsC lo w (.agg #[.int .i64 a, .int .i64 b, .int .i64 c, .string (bs n), v]) ⟨a, b, c, n, l⟩ := ⟨v, rfl, h⟩

set_option maxRecDepth 100000 in
set_option maxHeartbeats 800000 in
theorem encode_no (lo : Nat) (c : Cm) (cv : Value) (w : World) (hc : IsC lo w cv c) (hk : c.ok = false) :
    Calls Try.prog 10 #[cv] w fun e w' => e = .returned (.tuple #[.slice none 0 0, .int .i64 280]) ∧ Ext w w' := by
  obtain ⟨a0, p0, rfl, h0⟩ := isC_fields hc
  go_enter Try.func10, Try.ntmps10
  go_wp2_with fail
  refine Calls.mono (proper_any lo c _ _ (hc.mono (by repeat (first | (with_reducible exact Below.refl _ _) | (with_reducible assumption) | (with_reducible refine Below.ext ?_ (by first | omega | (simp; done) | (simp; omega)) _ _) | (with_reducible refine Below.alloc ?_ (by first | omega | (simp; done) | (simp; omega)) _) | (with_reducible refine Below.setCell ?_ (by first | omega | (simp; done) | (simp; omega)) _) | (with_reducible refine Below.drew ?_) | (with_reducible refine Below.drewN ?_ _))))) ?_
  rintro e w1 ⟨rfl, hb⟩
  rw [hk]
  obtain ⟨t, d, rfl⟩ := hb.form
  go_wp2_with fail
  go_ret2
  exact ⟨rfl, (by repeat (first | (with_reducible exact Below.refl _ _) | (with_reducible assumption) | (with_reducible refine Below.ext ?_ (by first | omega | (simp; done) | (simp; omega)) _ _) | (with_reducible refine Below.alloc ?_ (by first | omega | (simp; done) | (simp; omega)) _) | (with_reducible refine Below.setCell ?_ (by first | omega | (simp; done) | (simp; omega)) _) | (with_reducible refine Below.drew ?_) | (with_reducible refine Below.drewN ?_ _)))⟩
set_option maxRecDepth 100000 in
set_option maxHeartbeats 800000 in
theorem encode_hello (lo : Nat) (c : Cm) (cv : Value) (w : World) (hc : IsC lo w cv c) (hok : c.ok = true) (hk : c.kind = 1) (h1 : 1 ≤ c.rows) (h2 : c.rows ≤ 30) (h3 : 1 ≤ c.cols) (h4 : c.cols ≤ 100) (hn : c.name = []) (hd : c.data = []) :
    Calls Try.prog 10 #[cv] w fun e w' => ∃ v', e = .returned (.tuple #[v', .int .i64 0]) ∧ Bs w.heap.size w' v' c.pay ∧ Ext w w' := by
  obtain ⟨a0, p0, rfl, h0⟩ := isC_fields hc
  obtain ⟨kind, rows, cols, name, data⟩ := c
  simp only at *
  subst hk hn hd
  go_enter Try.func10, Try.ntmps10
  go_wp2_with fail
  refine Calls.mono (proper_any lo _ _ _ (hc.mono (by repeat (first | (with_reducible exact Below.refl _ _) | (with_reducible assumption) | (with_reducible refine Below.ext ?_ (by first | omega | (simp; done) | (simp; omega)) _ _) | (with_reducible refine Below.alloc ?_ (by first | omega | (simp; done) | (simp; omega)) _) | (with_reducible refine Below.setCell ?_ (by first | omega | (simp; done) | (simp; omega)) _) | (with_reducible refine Below.drew ?_) | (with_reducible refine Below.drewN ?_ _))))) ?_
  rintro e w1 ⟨rfl, hb⟩
  rw [hok]
  obtain ⟨t, d, rfl⟩ := hb.form
  have z1 : rows / 256 = 0 := by omega
  have z2 : cols / 256 = 0 := by omega
  have y1 := byte_toNat (n := rows) (by omega) (by omega)
  have y2 := byte_toNat (n := cols) (by omega) (by omega)
  have hl : Hid ([Value.int .u8 0, .int .u8 rows, .int .u8 0, .int .u8 cols] = u8s [0, byte rows, 0, byte cols]) := Lib.hid (by simp [u8s, y1, y2])
  clear y1 y2
  go_wp2_with (at_builtin; refine wpList_append_bytes _ _ (w.heap.size + 1 + t.size) rfl (.tmp 20) (.tmp 35) 24 rfl 5 elB _ [1] rfl ((Ob.block _ _ _ _ _ _ _ (by simp) (Nat.le_refl _) rfl rfl (by decide)).mono (Ext.al _ _)) 0 _ _ rfl (Bs.block _ _ _ _ _ _ _ _ [0, byte rows, 0, byte cols] (by simp) (Nat.zero_le _) hl.out rfl (Nat.le_refl _) (by decide)) _ _ rfl rfl (by simp) ((Ext.al _ _).tr (Ext.al _ _)) (by simp) ?_)
  intro a1 p1 t1 d1 ho hb1
  go_wp2_with fail
  go_ret2
  exact ⟨_, rfl, by simpa [Cm.pay, byte, unb] using ho.bs.weak (lo' := w.heap.size) (by first | omega | (simp; done) | (simp; omega)), (by repeat (first | (with_reducible exact Below.refl _ _) | (with_reducible assumption) | (with_reducible refine Below.ext ?_ (by first | omega | (simp; done) | (simp; omega)) _ _) | (with_reducible refine Below.alloc ?_ (by first | omega | (simp; done) | (simp; omega)) _) | (with_reducible refine Below.setCell ?_ (by first | omega | (simp; done) | (simp; omega)) _) | (with_reducible refine Below.drew ?_) | (with_reducible refine Below.drewN ?_ _)))⟩
set_option maxRecDepth 100000 in
set_option maxHeartbeats 800000 in
theorem encode_data (lo : Nat) (c : Cm) (cv : Value) (w : World) (hc : IsC lo w cv c) (hok : c.ok = true) (hk : c.kind = 3 ∨ c.kind = 7) (hn : c.name = []) (hl : c.data.length ≤ 4095) :
    Calls Try.prog 10 #[cv] w fun e w' => ∃ v', e = .returned (.tuple #[v', .int .i64 0]) ∧ Bs w.heap.size w' v' c.pay ∧ Ext w w' := by
  obtain ⟨a0, p0, rfl, h0⟩ := isC_fields hc
  obtain ⟨kind, rows, cols, name, data⟩ := c
  simp only at *
  subst hn
  rcases hk with rfl | rfl
  all_goals
    go_enter Try.func10, Try.ntmps10
    go_wp2_with fail
    refine Calls.mono (proper_any lo _ _ _ (hc.mono (by repeat (first | (with_reducible exact Below.refl _ _) | (with_reducible assumption) | (with_reducible refine Below.ext ?_ (by first | omega | (simp; done) | (simp; omega)) _ _) | (with_reducible refine Below.alloc ?_ (by first | omega | (simp; done) | (simp; omega)) _) | (with_reducible refine Below.setCell ?_ (by first | omega | (simp; done) | (simp; omega)) _) | (with_reducible refine Below.drew ?_) | (with_reducible refine Below.drewN ?_ _))))) ?_
    rintro e w1 ⟨rfl, hb⟩
    rw [hok]
    obtain ⟨t, d, rfl⟩ := hb.form
    go_wp2_with (at_builtin; refine wpList_append_bytes _ _ (w.heap.size + 1 + t.size) rfl (.tmp 40) (.tmp 42) 24 rfl 5 elB _ _ rfl (Ob.lit _ _ _ _ [_] _ (by simp) (by first | omega | (simp; done) | (simp; omega)) rfl rfl (by decide)) lo _ _ rfl (h0.mono (by repeat (first | (with_reducible exact Below.refl _ _) | (with_reducible assumption) | (with_reducible refine Below.ext ?_ (by first | omega | (simp; done) | (simp; omega)) _ _) | (with_reducible refine Below.alloc ?_ (by first | omega | (simp; done) | (simp; omega)) _) | (with_reducible refine Below.setCell ?_ (by first | omega | (simp; done) | (simp; omega)) _) | (with_reducible refine Below.drew ?_) | (with_reducible refine Below.drewN ?_ _)))) _ _ rfl rfl (by first | omega | (simp; done) | (simp; omega)) (Ext.al _ _) (by simp) ?_)
    intro a1 p1 t1 d1 ho hb1
    go_wp2_with fail
    go_ret2
    exact ⟨_, rfl, by simpa [Cm.pay, byte, unb] using ho.bs.weak (lo' := w.heap.size) (by first | omega | (simp; done) | (simp; omega)), (by repeat (first | (with_reducible exact Below.refl _ _) | (with_reducible assumption) | (with_reducible refine Below.ext ?_ (by first | omega | (simp; done) | (simp; omega)) _ _) | (with_reducible refine Below.alloc ?_ (by first | omega | (simp; done) | (simp; omega)) _) | (with_reducible refine Below.setCell ?_ (by first | omega | (simp; done) | (simp; omega)) _) | (with_reducible refine Below.drew ?_) | (with_reducible refine Below.drewN ?_ _)))⟩
set_option maxRecDepth 100000 in
set_option maxHeartbeats 800000 in
theorem encode_name (lo : Nat) (c : Cm) (cv : Value) (w : World) (hc : IsC lo w cv c) (hok : c.ok = true) (hk : c.kind = 2 ∨ c.kind = 4 ∨ c.kind = 5 ∨ c.kind = 6 ∨ c.kind = 8 ∨ c.kind = 9) (hn : c.data = []) (hl : c.name.length ≤ 32) :
    Calls Try.prog 10 #[cv] w fun e w' => ∃ v', e = .returned (.tuple #[v', .int .i64 0]) ∧ Bs w.heap.size w' v' c.pay ∧ Ext w w' := by
  obtain ⟨a0, p0, rfl, h0⟩ := isC_fields hc
  obtain ⟨kind, rows, cols, name, data⟩ := c
  simp only at *
  subst hn
  rcases hk with rfl | rfl | rfl | rfl | rfl | rfl
  all_goals
    go_enter Try.func10, Try.ntmps10
    go_wp2_with fail
    refine Calls.mono (proper_any lo _ _ _ (hc.mono (by repeat (first | (with_reducible exact Below.refl _ _) | (with_reducible assumption) | (with_reducible refine Below.ext ?_ (by first | omega | (simp; done) | (simp; omega)) _ _) | (with_reducible refine Below.alloc ?_ (by first | omega | (simp; done) | (simp; omega)) _) | (with_reducible refine Below.setCell ?_ (by first | omega | (simp; done) | (simp; omega)) _) | (with_reducible refine Below.drew ?_) | (with_reducible refine Below.drewN ?_ _))))) ?_
    rintro e w1 ⟨rfl, hb⟩
    rw [hok]
    obtain ⟨t, d, rfl⟩ := hb.form
    go_wp2_with (at_builtin; refine wpList_append_str _ _ (w.heap.size + 1 + t.size) rfl (.tmp 14) (.tmp 16) 24 9 rfl 5 elB Try.underlying9 _ _ rfl (Ob.lit _ _ _ _ [_] _ (by simp) (by first | omega | (simp; done) | (simp; omega)) rfl rfl (by decide)) _ rfl _ _ rfl rfl (by first | omega | (simp; done) | (simp; omega)) (Ext.al _ _) (by simp) ?_)
    intro a1 p1 t1 d1 ho hb1
    go_wp2_with fail
    go_ret2
    exact ⟨_, rfl, by simpa [Cm.pay, byte, unb] using ho.bs.weak (lo' := w.heap.size) (by first | omega | (simp; done) | (simp; omega)), (by repeat (first | (with_reducible exact Below.refl _ _) | (with_reducible assumption) | (with_reducible refine Below.ext ?_ (by first | omega | (simp; done) | (simp; omega)) _ _) | (with_reducible refine Below.alloc ?_ (by first | omega | (simp; done) | (simp; omega)) _) | (with_reducible refine Below.setCell ?_ (by first | omega | (simp; done) | (simp; omega)) _) | (with_reducible refine Below.drew ?_) | (with_reducible refine Below.drewN ?_ _)))⟩
theorem encode_ok (lo : Nat) (c : Cm) (cv : Value) (w : World) (hc : IsC lo w cv c) (hok : c.ok = true) :
    Calls Try.prog 10 #[cv] w fun e w' => ∃ v', e = .returned (.tuple #[v', .int .i64 0]) ∧ Bs w.heap.size w' v' c.pay ∧ Ext w w' := by
  rcases Cm.ok_cases hok with ⟨h, h1, h2, h3, h4, h5, h6⟩ | ⟨h, h1, h2, h3, h4, h5⟩ | ⟨h, h1, h2, h3, h4⟩ | ⟨h, h1, h2, h3, h4⟩
  · exact encode_hello lo c cv w hc hok h h1 h2 h3 h4 h5 h6
  · exact encode_name lo c cv w hc hok (by omega) h5 h4
  · exact encode_data lo c cv w hc hok h h3 h4
  · exact encode_name lo c cv w hc hok (by omega) h4 (by rw [h3]; decide)
end Go.Proofs.Ytkkdnaabfalpoaa
