/- The law CommandLimits: its walk. -/
import Derived.Test.YtkkdnaabfalpoaaRe28
import Derived.Test.YtkkdnaabfalpoaaMod
namespace Go.Proofs.Ytkkdnaabfalpoaa
open Go.RowKit
set_option linter.unusedSimpArgs false
set_option linter.unusedVariables false
def Cm.eno (c : Cm) : Int := if c.ok then 0 else 280
def Cm.out (c : Cm) : List UInt8 := if c.ok then c.pay else []
theorem enc_spec (lo : Nat) (c : Cm) (cv : Value) (w : World) (hc : IsC lo w cv c) :
    Calls Try.prog 10 #[cv] w fun e w' => ∃ v', e = .returned (.tuple #[v', .int .i64 c.eno]) ∧ Bs w.heap.size w' v' c.out ∧ Ext w w' := by
  unfold Cm.eno Cm.out
  cases hok : c.ok with
  | true => simpa using encode_ok lo c cv w hc hok
  | false => exact (encode_no lo c cv w hc hok).mono fun e w' ⟨he, hx⟩ => ⟨_, by simpa using he, by simpa using Bs.nil _ _, hx⟩
theorem renc_spec (lo : Nat) (c : Cm) (cv : Value) (w : World) (hc : IsC lo w cv c) :
    Calls Try.prog 11 #[cv] w fun e w' => ∃ v', e = .returned (.tuple #[v', .int .i64 c.eno]) ∧ Bs w.heap.size w' v' c.out ∧ Ext w w' := by
  unfold Cm.eno Cm.out
  cases hok : c.ok with
  | true => simpa using rencode_ok lo c cv w hc hok
  | false => exact (rencode_no lo c cv w hc hok).mono fun e w' ⟨he, hx⟩ => ⟨_, by simpa using he, by simpa using Bs.nil _ _, hx⟩
set_option maxRecDepth 100000 in
set_option maxHeartbeats 800000 in
theorem sane28 (w : World) : Calls Try.prog 8 #[] w fun e w' => e = .returned (.bool true) ∧ Ext w w' := by
  go_enter Try.func8, Try.ntmps8
  go_wp2_with fail
  refine Calls.mono (encode_ok 0 ⟨1, 24, 80, [], []⟩ _ _ (IsC.mk 0 _ 1 24 80 [] [] _ (Bs.nil _ _)) (by decide)) ?_
  rintro e w1 ⟨v', rfl, ho, hb⟩
  rw [show Cm.pay ⟨1, 24, 80, [], []⟩ = [1, 0, 24, 0, 80] from by decide] at ho
  obtain ⟨a1, p1, rfl, _⟩ := ho.shape
  have cv := run_string_bs (P := Try.prog) w1 _ _ _ _ _ _ Try.underlying24 Try.underlying5 Try.underlying9 ho
  simp only [List.length_cons, List.length_nil, Nat.zero_add] at cv
  go_wp2_with fail
  go_ret
  exact ⟨by simp, hb⟩
def zs (n : Nat) : List UInt8 := List.replicate n 0
theorem zs_len (n : Nat) : (zs n).length = n := by simp [zs]
theorem made_zs (n : Nat) : (madeCells #[.int .u8 0] n).toList = u8s (zs n) := by
  rw [toList_madeCells_one]; simp [u8s, zs]
theorem made_len (n : Nat) : (madeCells #[.int .u8 0] n).size = n := size_madeCells _ n
theorem made_bs (w : World) (lo g n : Nat) (hg : g = w.heap.size) (hlo : lo ≤ g) (hn : n ≤ 1000000) : Bs lo (w.alloc (.cells (madeCells #[.int .u8 0] n) 5)) (.slice (some ⟨g, 0, none⟩) n n) (zs n) :=
  Bs.block _ _ _ _ _ _ _ _ _ hg hlo (made_zs n) (zs_len n).symm (Nat.le_refl _) (by unfold maxLen; omega)
theorem run_mk (k n : Nat) (c : Int) (hc : c + k = n) (hn : n ≤ 1000000) (u : World) : (Instr.makeSlice 24 (.int .i64 (c + k)) (.int .i64 (c + k))).run Try.prog u = .ok (.slice (some ⟨u.heap.size, 0, none⟩) n n) (u.alloc (.cells (madeCells #[.int .u8 0] n) 5)) := by
  obtain ⟨i0, hi, hz0, hz1, hz2⟩ := info_parts info8
  have h := run_make (P := Try.prog) u 24 5 i0 (.int .u8 0) Try.underlying24 hi hz0 .i64 .i64 (c + k) (c + k) (by omega) (Int.le_refl _) (by rw [hz2]; omega) (by omega)
  have e : (c + (k : Int)).toNat = n := by omega
  rw [e] at h
  simpa [hz1, Value.cells] using h
set_option maxRecDepth 100000 in
set_option maxHeartbeats 8000000 in
theorem limits_walk (n : Int) (w : World) (hn : -9223372036854775808 ≤ n) (hn2 : n ≤ 9223372036854775807) :
    Calls Try.prog 3 #[.int .i64 n] w fun e w' => e = .returned (.bool true) ∧ Ext w w' := by
  obtain ⟨k, hk⟩ : ∃ k : Nat, n % 3 = k := ⟨(n % 3).toNat, by omega⟩
  have hk3 : k < 3 := by omega
  have m1 := run_mk k (31 + k) 31 (by omega) (by omega)
  have m2 := run_mk k (4094 + k) 4094 (by omega) (by omega)
  have hK := Lib.hid hk
  clear hk
  go_enter Try.func3, Try.ntmps3
  go_wp2_with fail
  refine Calls.mono (sane28 _) ?_
  rintro e w1 ⟨rfl, hb⟩
  go_wp2_with fail
  refine Calls.mono (mod_any n 3 _ (by decide) (by decide) hn hn2) ?_
  rintro e w2 ⟨he, rfl⟩
  rw [hK.out] at he
  subst he
  go_upto_region 4 with (fail)
  have cvs : ∀ (W' : World) (g : Nat), Bs 0 W' (.slice (some ⟨g, 0, none⟩) (31 + k) (31 + k)) (zs (31 + k)) → (convert 24 9 (.slice (some ⟨g, 0, none⟩) (31 + k) (31 + k))).run Try.prog W' = .ok (.string (bs (zs (31 + k)))) W' := fun W' g h => run_string_bs _ _ _ _ _ _ _ Try.underlying24 Try.underlying5 Try.underlying9 h
  have cv1 := cvs _ _ (made_bs w1 0 _ (31 + k) rfl (Nat.zero_le _) (by omega)).drew
  have cv2 := cvs _ _ ((made_bs w1 0 _ (31 + k) rfl (Nat.zero_le _) (by omega)).mono (Ext.al _ (.cells (madeCells #[.int .u8 0] (4094 + k)) 5))).drew
  have cv3 := cvs _ _ (made_bs (w1.alloc (.cells (madeCells #[.int .u8 0] (4094 + k)) 5)) 0 (w1.heap.size + 1) (31 + k) (by simp) (Nat.zero_le _) (by omega)).drew
  clear cvs
  have x1 : IntKind.i64.wrap (31 + (k : Int)) = 31 + k := IntWalk.i64_in _ (by omega)
  have x2 : IntKind.i64.wrap (4094 + (k : Int)) = 4094 + k := IntWalk.i64_in _ (by omega)
  have x3 : IntKind.i64.wrap (29 + (k : Int)) = 29 + k := IntWalk.i64_in _ (by omega)
  go_cut [29, 30, 31] (fun s m i wc => ∃ B dv ad cap, s = .slice (some ⟨B, 0, none⟩) 4 4 ∧ m = .int .i64 4 ∧ i = .int .i64 0 ∧ Ext w1 wc ∧ dv = .slice ad (4094 + k) cap ∧ Bs 0 wc dv (zs (4094 + k)) ∧ B < wc.heap.size ∧ ∀ o, wc.cell? ⟨B, o, none⟩ = (#[.int .i64 2, .int .i64 0, .int .i64 0, .string (bs (zs (31 + k))), .slice none 0 0, .int .i64 7, .int .i64 0, .int .i64 0, .string (bs []), dv, .int .i64 1, .int .i64 (29 + k), .int .i64 1, .string (bs []), .slice none 0 0, .int .i64 1, .int .i64 k, .int .i64 k, .string (bs []), .slice none 0 0] : Array Value)[o]?)
  case first =>
    go_region_with (fail)
    all_goals
      go_wp2_with fail
      go_meet
      refine ⟨_, _, _, _, rfl, rfl, rfl, (by repeat (first | (with_reducible exact Below.refl _ _) | (with_reducible assumption) | (with_reducible refine Below.ext ?_ (by first | omega | (simp; done) | (simp; omega)) _ _) | (with_reducible refine Below.alloc ?_ (by first | omega | (simp; done) | (simp; omega)) _) | (with_reducible refine Below.setCell ?_ (by first | omega | (simp; done) | (simp; omega)) _) | (with_reducible refine Below.drew ?_) | (with_reducible refine Below.drewN ?_ _))), rfl, ?_, by simp, by simp [go_sem]; exact fun o => rfl⟩
      first | exact Bs.mono (made_bs w1 0 _ (4094 + k) rfl (Nat.zero_le _) (by omega)) (by repeat (first | (with_reducible exact Below.refl _ _) | (with_reducible assumption) | (with_reducible refine Below.ext ?_ (by first | omega | (simp; done) | (simp; omega)) _ _) | (with_reducible refine Below.alloc ?_ (by first | omega | (simp; done) | (simp; omega)) _) | (with_reducible refine Below.setCell ?_ (by first | omega | (simp; done) | (simp; omega)) _) | (with_reducible refine Below.drew ?_) | (with_reducible refine Below.drewN ?_ _))) | exact Bs.mono (made_bs (w1.alloc (.cells (madeCells #[.int .u8 0] (31 + k)) 5)) 0 (w1.heap.size + 1) (4094 + k) (by simp) (Nat.zero_le _) (by omega)) (by repeat (first | (with_reducible exact Below.refl _ _) | (with_reducible assumption) | (with_reducible refine Below.ext ?_ (by first | omega | (simp; done) | (simp; omega)) _ _) | (with_reducible refine Below.alloc ?_ (by first | omega | (simp; done) | (simp; omega)) _) | (with_reducible refine Below.setCell ?_ (by first | omega | (simp; done) | (simp; omega)) _) | (with_reducible refine Below.drew ?_) | (with_reducible refine Below.drewN ?_ _)))
  case rest =>
    obtain ⟨B, dv, ad, cap, rfl, rfl, rfl, hE, rfl, hd, hB, hA⟩ := hcut
    clear cv1 cv2 cv3 m1 m2 x1 x2 x3
    have hA0 := Lib.hid hA
    have hd0 := Lib.hid hd
    clear hA hd
    obtain ⟨wo, rfl⟩ : ∃ wo : World, wo = wc := ⟨_, rfl⟩
    go_wp2_with fail
    go_loopw [31] (fun i wi => ∃ j : Nat, j ≤ 4 ∧ i = .int .i64 j ∧ Ext wo wi) (fun i _ => 4 - (intOf i).toNat)
    case atStart => exact ⟨0, by omega, rfl, Below.refl _ _⟩
    case round =>
      obtain ⟨j, hj, rfl, hEi⟩ := hrel
      have hA : ∀ o, wr.cell? ⟨B, o, none⟩ = _ := fun o => (hEi.cell (p := ⟨B, o, none⟩) (by exact hB)).trans (hA0.out o)
      have hd := Lib.hid (hd0.out.mono hEi)
      by_cases hj4 : j < 4
      · have hc : j = 0 ∨ j = 1 ∨ j = 2 ∨ j = 3 := by omega
        rcases hc with rfl | rfl | rfl | rfl
        all_goals
          go_wp2_with fail
          refine Calls.mono (enc_spec 0 _ _ _ (IsC.mk 0 _ _ _ _ _ _ _ (by first | exact Bs.nil _ _ | exact hd.out.mono (by repeat (first | (with_reducible exact Below.refl _ _) | (with_reducible assumption) | (with_reducible refine Below.ext ?_ (by first | omega | (simp; done) | (simp; omega)) _ _) | (with_reducible refine Below.alloc ?_ (by first | omega | (simp; done) | (simp; omega)) _) | (with_reducible refine Below.setCell ?_ (by first | omega | (simp; done) | (simp; omega)) _) | (with_reducible refine Below.drew ?_) | (with_reducible refine Below.drewN ?_ _)))))) ?_
          rintro e w2 ⟨v', rfl, h1, hb1⟩
          obtain ⟨a1, p1, rfl, _⟩ := h1.shape
          obtain ⟨t, d, rfl⟩ := hb1.form
          go_wp2_with fail
          refine Calls.mono (renc_spec 0 _ _ _ (IsC.mk 0 _ _ _ _ _ _ _ (by first | exact Bs.nil _ _ | exact hd.out.mono (by repeat (first | (with_reducible exact Below.refl _ _) | (with_reducible assumption) | (with_reducible refine Below.ext ?_ (by first | omega | (simp; done) | (simp; omega)) _ _) | (with_reducible refine Below.alloc ?_ (by first | omega | (simp; done) | (simp; omega)) _) | (with_reducible refine Below.setCell ?_ (by first | omega | (simp; done) | (simp; omega)) _) | (with_reducible refine Below.drew ?_) | (with_reducible refine Below.drewN ?_ _)))))) ?_
          rintro e w2 ⟨v', rfl, h2, hb2⟩
          have h3 := h1.mono hb2
          obtain ⟨a2, p2, rfl, _⟩ := h2.shape
          have cv1 := run_string_bs (P := Try.prog) w2 _ _ _ _ _ _ Try.underlying24 Try.underlying5 Try.underlying9 h3
          have cv2 := run_string_bs (P := Try.prog) w2 _ _ _ _ _ _ Try.underlying24 Try.underlying5 Try.underlying9 h2
          have hE5 : Ext wr w2 := by
            refine Ext.tr ?_ hb2
            exact (by repeat (first | (with_reducible exact Below.refl _ _) | (with_reducible assumption) | (with_reducible refine Below.ext ?_ (by first | omega | (simp; done) | (simp; omega)) _ _) | (with_reducible refine Below.alloc ?_ (by first | omega | (simp; done) | (simp; omega)) _) | (with_reducible refine Below.setCell ?_ (by first | omega | (simp; done) | (simp; omega)) _) | (with_reducible refine Below.drew ?_) | (with_reducible refine Below.drewN ?_ _)))
          clear hb1 hb2 h1 h2 h3 hd hA
          go_wp2_with fail
          go_roundw
          case rel => first | exact ⟨1, by decide, rfl, hEi.tr hE5⟩ | exact ⟨2, by decide, rfl, hEi.tr hE5⟩ | exact ⟨3, by decide, rfl, hEi.tr hE5⟩ | exact ⟨4, by decide, rfl, hEi.tr hE5⟩
          case measure => simp [intOf]
      · go_wp2_with fail
        go_ret
        exact ⟨rfl, (hb.tr hE).tr hEi⟩
end Go.Proofs.Ytkkdnaabfalpoaa
