/- The deck of jobmuxmill: New, Few, Left, Next, Range. -/
import Derived.Test.YtebkepcjcciigaaMod
import Derived.Test.YtebkepcjcciigaaFrame
namespace Go.Proofs.Ytebkepcjcciigaa
open Go.RowKit
set_option linter.unusedSimpArgs false
set_option linter.unusedVariables false
/-- The only old cell that turned is cell 1 of block b; new blocks may have come. -/
def Dx (b : Nat) (w w' : World) : Prop := ∃ v t d, w' = (w.setCell ⟨b, 1, none⟩ v).ext t d
theorem setCell_setCell (w : World) (a : Addr) (u v : Value) : (w.setCell a u).setCell a v = w.setCell a v := by
  simp only [World.setCell, World.mk.injEq, and_true]
  apply Array.ext_getElem?
  intro k
  simp only [Array.getElem?_modify]
  by_cases hk : a.block = k
  · simp only [hk, if_true]
    cases w.heap[k]? with
    | none => rfl
    | some o => cases o <;> simp
                split <;> simp
  · simp [hk]
theorem setCell_self (w : World) (b o : Nat) (v : Value) (h : w.cell? ⟨b, o, none⟩ = some v) : w.setCell ⟨b, o, none⟩ v = w := by
  have : (w.setCell ⟨b, o, none⟩ v).heap = w.heap := by
    simp only [World.setCell]
    apply Array.ext_getElem?
    intro k
    simp only [Array.getElem?_modify]
    by_cases hk : b = k
    · subst hk
      simp only [if_true]
      unfold World.cell? at h
      cases hh : w.heap[b]? with
      | none => rfl
      | some x =>
        cases x with
        | cells c e f =>
          rw [hh] at h
          simp at h
          simp only [Option.map_some, Option.isSome_none, Bool.false_eq_true, if_false, Option.some.injEq, Obj.cells.injEq, and_true]
          apply Array.ext_getElem?
          intro j
          rw [Array.getElem?_setIfInBounds]
          by_cases hj : o = j
          · subst hj
            obtain ⟨hlt, hv⟩ := Array.getElem?_eq_some_iff.1 h
            simp [hlt]
            exact hv.symm
          · simp [hj]
        | _ => rfl
    · simp [hk]
  unfold World.setCell at this ⊢
  simp only at this
  rw [this]
theorem ext_zero (w : World) : w.ext #[] w.drawn = w := by simp [World.ext]
theorem Dx.size {b : Nat} {w w' : World} (h : Dx b w w') : w.heap.size ≤ w'.heap.size := by
  obtain ⟨v, t, d, rfl⟩ := h; simp
theorem Dx.trans {b : Nat} {w w1 w2 : World} (hb : b < w.heap.size) (h : Dx b w w1) (k : Dx b w1 w2) : Dx b w w2 := by
  obtain ⟨v, t, d, rfl⟩ := h
  obtain ⟨v2, t2, d2, rfl⟩ := k
  exact ⟨v2, t ++ t2, d2, by rw [setCell_ext _ _ _ (by simpa using hb), setCell_setCell, ext_ext]⟩
theorem Dx.ext {b : Nat} {w w1 w2 : World} (h : Dx b w w1) (k : Ext w1 w2) : Dx b w w2 := by
  obtain ⟨v, t, d, rfl⟩ := h
  obtain ⟨t2, d2, rfl⟩ := k.form2
  exact ⟨v, t2, d2, rfl⟩
theorem Dx.below {b B : Nat} {w w1 : World} (h : Dx b w w1) (hB : B ≤ b) (hb : b < w.heap.size) : Below B w w1 := by
  obtain ⟨v, t, d, rfl⟩ := h
  exact Below.ext ((Below.refl _ _).setCell hB v) (by simp; omega) t d
theorem Dx.agree {b lo hi : Nat} {w w1 : World} (h : Dx b w w1) (hl : b < lo) (hh : hi ≤ w.heap.size) : Agree lo hi w w1 := by
  obtain ⟨v, t, d, rfl⟩ := h
  intro k h1 h2
  rw [ext_block (by simp; omega)]
  exact Below.heap_setCell _ _ _ _ (by simp; omega)
/-- The deck in block b of w: the numbers that are left are r. w0: the world before the deck was made. -/
def Dk (w0 w : World) (b : Nat) (r : List Int) : Prop :=
  ∃ lv l k, Is 0 w0 lv l ∧ I64s l ∧ l.length ≤ 1000000 ∧ Below b w0 w ∧ w0.heap.size ≤ b ∧ w.cell? ⟨b, 0, none⟩ = some lv ∧ w.cell? ⟨b, 1, none⟩ = some (.int .i64 (k : Nat)) ∧ (∀ o, w.frozen? ⟨b, o, none⟩ = false) ∧ k ≤ l.length ∧ r = l.drop k
theorem Dk.lt {w0 w : World} {b : Nat} {r : List Int} (h : Dk w0 w b r) : b < w.heap.size := by
  obtain ⟨lv, l, k, _, _, _, _, _, h1, _⟩ := h
  exact World.block_lt_of_cell? w _ h1
theorem Dk.old {w0 w : World} {b : Nat} {r : List Int} (h : Dk w0 w b r) : Ext w0 w := by
  obtain ⟨lv, l, k, _, _, _, h1, h2, _⟩ := h
  exact h1.mono h2
theorem Dk.mono {w0 w w' : World} {b : Nat} {r : List Int} (h : Dk w0 w b r) (hb : Ext w w') : Dk w0 w' b r := by
  have hlt := h.lt
  obtain ⟨lv, l, k, h0, h1, h2, h3, h4, h5, h6, h7, h8⟩ := h
  exact ⟨lv, l, k, h0, h1, h2, h3.trans (hb.mono (by omega)), h4, hb.cv h5, hb.cv h6, fun o => hb.fz hlt (h7 o), h8⟩
/-- What Next draws, and what is left. -/
def nx (r : List Int) (n : Int) : Int := match r with | [] => 0 | x :: _ => x % n
theorem nx_bd (r : List Int) (n : Int) (hn : 1 ≤ n) : 0 ≤ nx r n ∧ nx r n < n := by
  cases r with
  | nil => simp only [nx]; omega
  | cons x r => exact ⟨Int.emod_nonneg x (by omega), Int.emod_lt_of_pos x (by omega)⟩
set_option maxRecDepth 100000 in
set_option maxHeartbeats 800000 in
theorem left_any (w0 : World) (b : Nat) (r : List Int) (w : World) (hd : Dk w0 w b r) :
    Calls Try.prog 10 #[.pointer (some ⟨b, 0, none⟩)] w fun e w' => e = .returned (.bool !r.isEmpty) ∧ ∃ n, w' = w.drewN n := by
  obtain ⟨lv, l, k, h0, h1, h2, h3, h4, h5, h6, h7, h8, rfl⟩ := hd
  obtain ⟨ad, cap, rfl, _⟩ := h0.shape
  have hr : (!(l.drop k).isEmpty) = decide (k < l.length) := by
    rw [Bool.eq_iff_iff]; simp
  have hR := Lib.hid hr
  clear hr h0 h1 h3 h4 h7
  go_enter Try.func10, Try.ntmps10
  go_wp2_with fail
  go_quiet (fail)
  go_wp2_with fail
  go_ret
  exact ⟨by rw [hR.out]; rfl, _, rfl⟩
theorem drewN_ext0 (w : World) (n : Nat) : w.drewN n = w.ext #[] (w.drawn + n) := by simp [World.ext, World.drewN]
theorem mod_same (v n : Int) (w : World) (hn : 1 ≤ n) (hn2 : n ≤ 9223372036854775807) (hv : -9223372036854775808 ≤ v) (hv2 : v ≤ 9223372036854775807) :
    Calls Try.prog 9 #[.int .i64 v, .int .i64 n] w fun e w' => e = .returned (.int .i64 (v % n)) ∧ w' = w := (mod_any v n w hn hn2 hv hv2).mono fun _ _ h => ⟨h.1, h.2.symm⟩
set_option maxRecDepth 100000 in
set_option maxHeartbeats 800000 in
theorem next_any (w0 : World) (b : Nat) (r : List Int) (n : Int) (w : World) (hd : Dk w0 w b r) (hn : 1 ≤ n) (hn2 : n ≤ 9223372036854775807) :
    Calls Try.prog 11 #[.pointer (some ⟨b, 0, none⟩), .int .i64 n] w fun e w' => e = .returned (.int .i64 (nx r n)) ∧ Dk w0 w' b r.tail ∧ Dx b w w' := by
  have hlt := hd.lt
  have hL := left_any w0 b r w hd
  have hold := hd.old.size
  obtain ⟨lv, l, k, h0, h1, h2, h3, h4, h5, h6, h7, h8, rfl⟩ := hd
  have h0' := h0.mono (h3.mono h4)
  obtain ⟨ad, cap, hlv, g1, g2, g3, h9⟩ := Sl.split h0'
  by_cases hk : k < l.length
  · have hr : l.drop k = l[k] :: l.drop (k + 1) := List.drop_eq_getElem_cons hk
    obtain ⟨bb, o, rfl, hbb, hc⟩ : ∃ bb o, ad = some ⟨bb, o, none⟩ ∧ bb < w0.heap.size ∧ w.cell? ⟨bb, o + k, none⟩ = some (.int .i64 l[k]) := by
      rcases h9 with h9 | ⟨bb, o, rfl, _, hj⟩
      · simp at h9; subst h9; simp at hk
      · refine ⟨bb, o, rfl, ?_, hj k _ (by simp [List.getElem?_eq_getElem hk])⟩
        obtain ⟨_, _, e, _, _, _, _, hx⟩ := h0
        rw [hlv] at e; cases e
        obtain ⟨x, hx1, hx2⟩ := hx k _ (by rw [List.getElem?_map, List.getElem?_eq_getElem hk]; rfl)
        cases hx1
        have := World.block_lt_of_cell? w0 _ hx2
        rwa [Addr.add_block] at this
    subst hlv
    have hI := h1 l[k] (List.getElem_mem hk)
    rw [hr] at hL ⊢
    replace hL := hL.mono (fun e w' h => (⟨by rw [h.1]; rfl, h.2⟩ : e = .returned (.bool true) ∧ ∃ n, w' = w.drewN n))
    have hne : ¬ bb = b := by omega
    have x1 : IntKind.i64.wrap ((k : Int) + 1) = k + 1 := IntWalk.i64_in _ (by omega)
    have x2 : IntKind.i64.wrap (k : Int) = k := IntWalk.i64_in _ (by omega)
    have hfz := h7 1
    have H0 := Lib.hid h0
    have H3 := Lib.hid h3
    have H5 := Lib.hid h5
    have H7 := Lib.hid h7
    have H1 := Lib.hid h1
    clear h0 h3 h7 h1 h0' h9 hr hold
    go_enter Try.func11, Try.ntmps11
    go_wp2_with fail
    refine Calls.mono hL ?_
    rintro e w1 ⟨rfl, m, rfl⟩
    go_wp2_with fail
    go_quiet ((go_at_call 9; exact Calls.quiet_of_same (mod_same l[k] n _ hn hn2 hI.1 hI.2)))
    go_wp2_with fail
    go_ret
    refine ⟨rfl, ?_, ?_⟩
    · refine ⟨_, l, k + 1, H0.out, H1.out, h2, ?_, h4, ?_, ?_, ?_, by omega, rfl⟩
      · exact Below.drewN (Below.setCell (Below.drewN H3.out _) (by simp) _) _
      · rw [← H5.out]
        simp [go_sem]
      · simp [go_sem, hlt, h6]
      · intro o
        have := H7.out o
        simp [go_sem, this]
    · exact ⟨_, _, _, by rw [drewN_ext0]; simp [go_sem]; rfl⟩
  · have hr : l.drop k = [] := List.drop_eq_nil_of_le (by omega)
    replace hL := hL.mono (fun e w' h => (⟨by rw [h.1, hr]; rfl, h.2⟩ : e = .returned (.bool false) ∧ ∃ n, w' = w.drewN n))
    rw [hr]
    have hD : Hid (Dk w0 w b []) := Lib.hid ⟨lv, l, k, h0, h1, h2, h3, h4, h5, h6, h7, h8, hr.symm⟩
    clear h0 h3 h7 h1 h0' h9 hr hold
    go_enter Try.func11, Try.ntmps11
    go_wp2_with fail
    refine Calls.mono hL ?_
    rintro e w1 ⟨rfl, m, rfl⟩
    go_wp2_with fail
    go_ret
    exact ⟨rfl, hD.out.mono (by repeat (first | (with_reducible exact Below.refl _ _) | (with_reducible assumption) | (with_reducible refine Below.ext ?_ (by first | omega | (simp; done) | (simp; omega)) _ _) | (with_reducible refine Below.alloc ?_ (by first | omega | (simp; done) | (simp; omega)) _) | (with_reducible refine Below.setCell ?_ (by first | omega | (simp; done) | (simp; omega)) _) | (with_reducible refine Below.drew ?_) | (with_reducible refine Below.drewN ?_ _))), _, _, _, by rw [setCell_self _ _ _ _ h6]; exact drewN_ext0 _ _⟩
end Go.Proofs.Ytebkepcjcciigaa
