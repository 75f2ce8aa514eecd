/- Layer 28, the reference: Encode. -/
import Derived.Test.YtkkdnaabfalpoaaRp28
namespace Go.Proofs.Ytkkdnaabfalpoaa
open Go.RowKit
set_option linter.unusedSimpArgs false
set_option linter.unusedVariables false
set_option maxRecDepth 100000 in
set_option maxHeartbeats 800000 in
theorem rencode_no (lo : Nat) (c : Cm) (cv : Value) (w : World) (hc : IsC lo w cv c) (hk : c.ok = false) :
    Calls Try.prog 11 #[cv] w fun e w' => e = .returned (.tuple #[.slice none 0 0, .int .i64 280]) ∧ Ext w w' := by
  obtain ⟨a0, p0, rfl, h0⟩ := isC_fields hc
  go_enter Try.func11, Try.ntmps11
  go_wp2_with fail
  refine Calls.mono (rproper_any lo c _ _ (hc.mono (by repeat (first | (with_reducible exact Below.refl _ _) | (with_reducible assumption) | (with_reducible refine Below.ext ?_ (by first | omega | (simp; done) | (simp; omega)) _ _) | (with_reducible refine Below.alloc ?_ (by first | omega | (simp; done) | (simp; omega)) _) | (with_reducible refine Below.setCell ?_ (by first | omega | (simp; done) | (simp; omega)) _) | (with_reducible refine Below.drew ?_) | (with_reducible refine Below.drewN ?_ _))))) ?_
  rintro e w1 ⟨rfl, hb⟩
  rw [hk]
  obtain ⟨t, d, rfl⟩ := hb.form
  go_wp2_with fail
  go_ret2
  exact ⟨rfl, (by repeat (first | (with_reducible exact Below.refl _ _) | (with_reducible assumption) | (with_reducible refine Below.ext ?_ (by first | omega | (simp; done) | (simp; omega)) _ _) | (with_reducible refine Below.alloc ?_ (by first | omega | (simp; done) | (simp; omega)) _) | (with_reducible refine Below.setCell ?_ (by first | omega | (simp; done) | (simp; omega)) _) | (with_reducible refine Below.drew ?_) | (with_reducible refine Below.drewN ?_ _)))⟩
set_option maxRecDepth 100000 in
set_option maxHeartbeats 800000 in
theorem rencode_hello (lo : Nat) (c : Cm) (cv : Value) (w : World) (hc : IsC lo w cv c) (hok : c.ok = true) (hk : c.kind = 1) (h1 : 1 ≤ c.rows) (h2 : c.rows ≤ 30) (h3 : 1 ≤ c.cols) (h4 : c.cols ≤ 100) (hn : c.name = []) (hd : c.data = []) :
    Calls Try.prog 11 #[cv] w fun e w' => ∃ v', e = .returned (.tuple #[v', .int .i64 0]) ∧ Bs w.heap.size w' v' c.pay ∧ Ext w w' := by
  obtain ⟨a0, p0, rfl, h0⟩ := isC_fields hc
  obtain ⟨kind, rows, cols, name, data⟩ := c
  simp only at *
  subst hk hn hd
  go_enter Try.func11, Try.ntmps11
  go_wp2_with fail
  refine Calls.mono (rproper_any lo _ _ _ (hc.mono (by repeat (first | (with_reducible exact Below.refl _ _) | (with_reducible assumption) | (with_reducible refine Below.ext ?_ (by first | omega | (simp; done) | (simp; omega)) _ _) | (with_reducible refine Below.alloc ?_ (by first | omega | (simp; done) | (simp; omega)) _) | (with_reducible refine Below.setCell ?_ (by first | omega | (simp; done) | (simp; omega)) _) | (with_reducible refine Below.drew ?_) | (with_reducible refine Below.drewN ?_ _))))) ?_
  rintro e w1 ⟨rfl, hb⟩
  rw [hok]
  obtain ⟨t, d, rfl⟩ := hb.form
  have z1 : rows / 256 = 0 := by omega
  have z2 : cols / 256 = 0 := by omega
  have y1 := byte_toNat (n := rows) (by omega) (by omega)
  have y2 := byte_toNat (n := cols) (by omega) (by omega)
  have hl : Hid ([Value.int .u8 0, .int .u8 rows, .int .u8 0, .int .u8 cols] = u8s [0, byte rows, 0, byte cols]) := Lib.hid (by simp [u8s, y1, y2])
  clear y1 y2
  go_wp2_with (at_builtin; refine wpList_append_bytes _ _ (w.heap.size + 1 + t.size) rfl (.tmp 15) (.tmp 30) 24 rfl 5 elB _ [1] rfl ((Ob.block _ _ _ _ _ _ _ (by simp) (Nat.le_refl _) rfl rfl (by decide)).mono (Ext.al _ _)) 0 _ _ rfl (Bs.block _ _ _ _ _ _ _ _ [0, byte rows, 0, byte cols] (by simp) (Nat.zero_le _) hl.out rfl (Nat.le_refl _) (by decide)) [1, 0, byte rows, 0, byte cols] 5 rfl rfl (by simp) ((Ext.al _ _).tr (Ext.al _ _)) (by simp) ?_)
  intro a1 p1 t1 d1 ho hb1
  have hO := Lib.hid ho
  clear ho hb1
  go_wp2_with fail
  have g0 := Lib.hid (h0.mono (show Ext w _ from (by repeat (first | (with_reducible exact Below.refl _ _) | (with_reducible assumption) | (with_reducible refine Below.ext ?_ (by first | omega | (simp; done) | (simp; omega)) _ _) | (with_reducible refine Below.alloc ?_ (by first | omega | (simp; done) | (simp; omega)) _) | (with_reducible refine Below.setCell ?_ (by first | omega | (simp; done) | (simp; omega)) _) | (with_reducible refine Below.drew ?_) | (with_reducible refine Below.drewN ?_ _)))))
  go_region_law (first | (refine step_append_str _ _ (w.heap.size + 1 + t.size) rfl (.tmp 32) (.tmp 34) 24 9 rfl 5 elB Try.underlying9 (.slice a1 5 p1) [1, 0, byte rows, 0, byte cols] (by simp [Act.eval, Act.put]) (hO.out.atd _) (bs []) (by simp [Act.eval, Act.put]) [1, 0, byte rows, 0, byte cols] 5 rfl rfl (by decide) (Ext.app _ _ _ 0 _) (by simp) ?_; intro a2 p2 t2 d2 ho2 hb2; rw [ext_ext] at ho2) | (refine step_append_bytes _ _ (w.heap.size + 1 + t.size) rfl (.tmp 35) (.tmp 37) 24 rfl 5 elB (.slice a2 5 p2) [1, 0, byte rows, 0, byte cols] (by simp [Act.eval, Act.put]) ho2 lo (.slice a0 0 p0) [] (by simp [Act.eval, Act.put]) (h0.mono (by repeat (first | (with_reducible exact Below.refl _ _) | (with_reducible assumption) | (with_reducible refine Below.ext ?_ (by first | omega | (simp; done) | (simp; omega)) _ _) | (with_reducible refine Below.alloc ?_ (by first | omega | (simp; done) | (simp; omega)) _) | (with_reducible refine Below.setCell ?_ (by first | omega | (simp; done) | (simp; omega)) _) | (with_reducible refine Below.drew ?_) | (with_reducible refine Below.drewN ?_ _)))) [1, 0, byte rows, 0, byte cols] 5 rfl rfl (by decide) (Ext.app _ _ _ 0 _) (by simp) ?_; intro a3 p3 t3 d3 ho3 hb3; rw [ext_ext] at ho3))
  all_goals
    go_wp2_with fail
    go_ret2
    exact ⟨.slice a3 5 p3, by simp [Act.put], Bs.fin ho3.bs (by simp) (by first | omega | (simp; done) | (simp; omega)) (by first | omega | (simp; done) | (simp; omega)) (by first | (with_reducible rfl) | (simp; done) | (simp; omega)) (by simp [Cm.pay, byte]), (by repeat (first | (with_reducible exact Below.refl _ _) | (with_reducible assumption) | (with_reducible refine Below.ext ?_ (by first | omega | (simp; done) | (simp; omega)) _ _) | (with_reducible refine Below.alloc ?_ (by first | omega | (simp; done) | (simp; omega)) _) | (with_reducible refine Below.setCell ?_ (by first | omega | (simp; done) | (simp; omega)) _) | (with_reducible refine Below.drew ?_) | (with_reducible refine Below.drewN ?_ _)))⟩
set_option maxRecDepth 100000 in
set_option maxHeartbeats 800000 in
theorem rencode_rest (lo : Nat) (c : Cm) (cv : Value) (w : World) (hc : IsC lo w cv c) (hok : c.ok = true) (hk : c.kind ≠ 1) (hl : c.name.length ≤ 32) (hd : c.data.length ≤ 4095) (hb0 : 1 ≤ c.kind ∧ c.kind ≤ 9) :
    Calls Try.prog 11 #[cv] w fun e w' => ∃ v', e = .returned (.tuple #[v', .int .i64 0]) ∧ Bs w.heap.size w' v' c.pay ∧ Ext w w' := by
  obtain ⟨a0, p0, rfl, h0⟩ := isC_fields hc
  obtain ⟨kind, rows, cols, name, data⟩ := c
  simp only at *
  have hk1 : (kind == 1) = false := by simpa using hk
  have hby := byte_toNat (n := kind) (by omega) (by omega)
  have hC : Hid ([Value.int .u8 kind] = u8s [byte kind]) := Lib.hid (by simp [u8s, hby])
  clear hby
  obtain ⟨hb1, hb2⟩ := hb0
  go_enter Try.func11, Try.ntmps11
  go_wp2_with fail
  refine Calls.mono (rproper_any lo _ _ _ (hc.mono (by repeat (first | (with_reducible exact Below.refl _ _) | (with_reducible assumption) | (with_reducible refine Below.ext ?_ (by first | omega | (simp; done) | (simp; omega)) _ _) | (with_reducible refine Below.alloc ?_ (by first | omega | (simp; done) | (simp; omega)) _) | (with_reducible refine Below.setCell ?_ (by first | omega | (simp; done) | (simp; omega)) _) | (with_reducible refine Below.drew ?_) | (with_reducible refine Below.drewN ?_ _))))) ?_
  rintro e w1 ⟨rfl, hb⟩
  rw [hok]
  obtain ⟨t, d, rfl⟩ := hb.form
  have hP := Lib.hid (show Cm.pay ⟨kind, rows, cols, name, data⟩ = byte kind :: (name ++ data) from by simp [Cm.pay, hk])
  clear hk hok hc
  go_wp2_with fail
  have g0 := Lib.hid (h0.mono (show Ext w _ from (by repeat (first | (with_reducible exact Below.refl _ _) | (with_reducible assumption) | (with_reducible refine Below.ext ?_ (by first | omega | (simp; done) | (simp; omega)) _ _) | (with_reducible refine Below.alloc ?_ (by first | omega | (simp; done) | (simp; omega)) _) | (with_reducible refine Below.setCell ?_ (by first | omega | (simp; done) | (simp; omega)) _) | (with_reducible refine Below.drew ?_) | (with_reducible refine Below.drewN ?_ _)))))
  have hO : Hid (∀ A d', Ob (w.heap.size + 1 + t.size) 5 (((w.alloc A).ext t d').alloc (.cells #[.int .u8 kind] 5)) (.slice (some ⟨w.heap.size + 1 + t.size, 0, none⟩) 1 1) [byte kind]) := Lib.hid fun A d' => Ob.block _ _ _ _ _ _ _ (by simp) (Nat.le_refl _) hC.out rfl (by decide)
  go_region_law (first | (refine step_append_str _ _ (w.heap.size + 1 + t.size) rfl (.tmp 32) (.tmp 34) 24 9 rfl 5 elB Try.underlying9 (.slice (some ⟨w.heap.size + 1 + t.size, 0, none⟩) 1 1) [byte kind] (by simp [Act.eval, Act.put]) (hO.out _ _).drew (bs name) (by simp [Act.eval, Act.put]) (byte kind :: name) (name.length + 1) (by simp) (by simp) (by omega) (Ext.al _ _).drew (by simp) ?_; intro a2 p2 t2 d2 ho2 hb2; rw [ext_ext] at ho2) | (refine step_append_bytes _ _ (w.heap.size + 1 + t.size) rfl (.tmp 35) (.tmp 37) 24 rfl 5 elB (.slice a2 (name.length + 1) p2) (byte kind :: name) (by simp [Act.eval, Act.put]) ho2 lo (.slice a0 data.length p0) data (by simp [Act.eval, Act.put]) (h0.mono (by repeat (first | (with_reducible exact Below.refl _ _) | (with_reducible assumption) | (with_reducible refine Below.ext ?_ (by first | omega | (simp; done) | (simp; omega)) _ _) | (with_reducible refine Below.alloc ?_ (by first | omega | (simp; done) | (simp; omega)) _) | (with_reducible refine Below.setCell ?_ (by first | omega | (simp; done) | (simp; omega)) _) | (with_reducible refine Below.drew ?_) | (with_reducible refine Below.drewN ?_ _)))) (byte kind :: (name ++ data)) (name.length + data.length + 1) (by simp) (by simp) (by omega) (Ext.app _ _ _ 0 _) (by simp) ?_; intro a3 p3 t3 d3 ho3 hb3; rw [ext_ext] at ho3))
  all_goals
    go_wp2_with fail
    go_ret2
    exact ⟨.slice a3 (name.length + data.length + 1) p3, by simp [Act.put], Bs.fin ho3.bs (by simp) (by first | omega | (simp; done) | (simp; omega)) (by first | omega | (simp; done) | (simp; omega)) (by first | (with_reducible rfl) | (simp; done) | (simp; omega)) hP.out, (by repeat (first | (with_reducible exact Below.refl _ _) | (with_reducible assumption) | (with_reducible refine Below.ext ?_ (by first | omega | (simp; done) | (simp; omega)) _ _) | (with_reducible refine Below.alloc ?_ (by first | omega | (simp; done) | (simp; omega)) _) | (with_reducible refine Below.setCell ?_ (by first | omega | (simp; done) | (simp; omega)) _) | (with_reducible refine Below.drew ?_) | (with_reducible refine Below.drewN ?_ _)))⟩
theorem rencode_ok (lo : Nat) (c : Cm) (cv : Value) (w : World) (hc : IsC lo w cv c) (hok : c.ok = true) :
    Calls Try.prog 11 #[cv] w fun e w' => ∃ v', e = .returned (.tuple #[v', .int .i64 0]) ∧ Bs w.heap.size w' v' c.pay ∧ Ext w w' := by
  rcases Cm.ok_cases hok with ⟨h, h1, h2, h3, h4, h5, h6⟩ | ⟨h, h1, h2, h3, h4, h5⟩ | ⟨h, h1, h2, h3, h4⟩ | ⟨h, h1, h2, h3, h4⟩
  · exact rencode_hello lo c cv w hc hok h h1 h2 h3 h4 h5 h6
  · exact rencode_rest lo c cv w hc hok (by omega) h4 (by rw [h5]; decide) (by omega)
  · exact rencode_rest lo c cv w hc hok (by omega) (by rw [h3]; decide) h4 (by omega)
  · exact rencode_rest lo c cv w hc hok (by omega) (by rw [h3]; decide) (by rw [h4]; decide) (by omega)
end Go.Proofs.Ytkkdnaabfalpoaa
