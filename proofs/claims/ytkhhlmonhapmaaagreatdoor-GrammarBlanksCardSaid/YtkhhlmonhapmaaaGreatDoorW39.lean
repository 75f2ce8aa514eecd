import Derived.Test.YtkhhlmonhapmaaaGreatDoorW38
import Derived.Test.YtkhhlmonhapmaaaGreatDoorW12
import Derived.Test.YtkhhlmonhapmaaaGreatDoorW33
import Derived.WalkKit
import Derived.Lib.Builder
import Derived.Laws.Externs
import Derived.Test.YtkhhlmonhapmaaaGreatDoorW11
import Derived.OwnWalk
/- The program's lexer: skip. -/
set_option linter.unusedSimpArgs false
set_option linter.unusedVariables false
namespace Go.Proofs.YtkhhlmonhapmaaaGreatDoor
open Go.RowKit
theorem plc_cmt : ∀ (l : List UInt8) (p : Nat × Nat), plc p (l.take (cmt l)) = (p.1, p.2 + cmt l)
  | [], p => by simp [cmt, plc]
  | c :: r, p => by
    by_cases h : c.toNat = 10
    · rw [cmt_no _ _ h]; simp [plc]
    · rw [cmt_yes _ _ h, List.take_succ_cons, plc, if_neg h, plc_cmt r]
      simp; omega
theorem plc_next (t : List UInt8) (j : Nat) (h : j < t.length) : plc (1, 1) (t.take (j + 1)) = if (t.getD j 0).toNat = 10 then ((plc (1, 1) (t.take j)).1 + 1, 1) else ((plc (1, 1) (t.take j)).1, (plc (1, 1) (t.take j)).2 + 1) := by
  rw [← plc_at t j 1, drop_get t j h, List.take_succ_cons, List.take_zero]
  rfl
def sc (t : List UInt8) (k : Nat) : List AV := scc t k (plc (1, 1) (t.take k)).1 (plc (1, 1) (t.take k)).2
theorem plc_lx : ∀ (l : List UInt8) (p : Nat × Nat), (plc p l).1 ≤ p.1 + l.length ∧ (plc p l).2 ≤ p.2 + l.length + 1 ∧ p.1 ≤ (plc p l).1
  | [], p => by simp [plc]
  | c :: r, p => by
    rw [plc]
    split
    · have := plc_lx r (p.1 + 1, 1); simp only [List.length_cons] at *; omega
    · have := plc_lx r (p.1, p.2 + 1); simp only [List.length_cons] at *; omega
theorem skp_b {l r : List UInt8} {c : UInt8} (hl : l = c :: r) (h : c.toNat = 32 ∨ c.toNat = 9 ∨ c.toNat = 10 ∨ c.toNat = 13) : skp l = skp r + 1 := by subst hl; exact skp_blank c r h
theorem skp_c {l r : List UInt8} {c : UInt8} (hl : l = c :: r) (h : c.toNat = 35) : skp l = cmt l + skp (l.drop (cmt l)) ∧ 1 ≤ cmt l := by
  subst hl
  exact ⟨skp_cmt c r h, by rw [cmt_yes _ _ (by omega)]; omega⟩
theorem skp_n {l r : List UInt8} {c : UInt8} (hl : l = c :: r) (h : ¬(c.toNat = 32 ∨ c.toNat = 9 ∨ c.toNat = 10 ∨ c.toNat = 13)) (h2 : c.toNat ≠ 35) : skp l = 0 := by subst hl; exact skp_no c r h h2
set_option maxRecDepth 100000 in
set_option maxHeartbeats 8000000 in
theorem lskip_s (b : Nat) (t : List UInt8) (k : Nat) (hk : k ≤ t.length) (ht : t.length ≤ 100000) : Spec Tryz.prog 74 [.box b (sc t k)] [.x (.pointer (some ⟨b, 0, none⟩))] (fun r H' => H' = [.box b (sc t (nxk t k))]) := by
  unfold sc scc
  refine Spec_of Tryz.func74 rfl ?_
  simp only [Tryz.ntmps74, List.length_cons, List.length_nil, List.replicate_succ, List.replicate_zero, List.cons_append, List.nil_append, Nat.reduceAdd, Nat.reduceSub]
  (repeat' (first | with_reducible (refine awp_block ?_) | fail))
  refine awp_loopS (S := Nat) (fun j => frm 70 [(0, .x (.pointer (some ⟨b, 0, none⟩)))]) (fun j => [.box b [.x (.string (bs t)), .x (.int .i64 j), .x (.int .i64 ((plc (1, 1) (t.take j)).1 : Nat)), .x (.int .i64 ((plc (1, 1) (t.take j)).2 : Nat))]]) (fun j => j ≤ t.length ∧ j + skp (t.drop j) = k + skp (t.drop k)) (fun j => t.length - j) k (Weak.mk' [] _ (List.Perm.refl _) (VwHs.refl _ _) (by (repeat' (first | exact VwL.nil | (refine VwL.cons ?_ ?_) | exact Vw.refl _ | fail)))) ⟨hk, rfl⟩ fun j hj => ?_
  obtain ⟨h1, h2⟩ := hj
  have h2' := Lib.hid h2
  clear h2
  simp only [frm, List.replicate_succ, List.replicate_zero, List.foldl_cons, List.foldl_nil, List.set_cons_zero]
  have hpl := plc_lx (t.take j) (1, 1)
  rw [List.length_take, Nat.min_eq_left h1] at hpl
  by_cases hlt : j < t.length
  · have hd := drop_get t j hlt
    have hpn := plc_next t j hlt
    have hcm := plc_at t j (cmt (t.drop j))
    rw [plc_cmt] at hcm
    have hcl := cmt_le (t.drop j)
    rw [List.length_drop] at hcl
    rw [List.getD_eq_getElem?_getD] at hd hpn
    generalize hL : (plc (1, 1) (t.take j)).1 = L at hpl hpn hcm ⊢
    generalize hC : (plc (1, 1) (t.take j)).2 = C at hpl hpn hcm ⊢
    have hLC : (plc (1, 1) (t.take j)).1 = L ∧ (plc (1, 1) (t.take j)).2 = C := ⟨hL, hC⟩
    have hLC := Lib.hid hLC
    clear hL hC
    have hd' := Lib.hid hd
    have hpn' := Lib.hid hpn
    have hcm' := Lib.hid hcm
    clear hd hpn hcm
    have hib := indexByte_s (t.drop j)
    have hdl : (t.drop j).length = t.length - j := List.length_drop
    rcases indexByte_cmt (t.drop j) with ⟨hi1, hi2⟩ | hi1
    · rw [hi1] at hib
      have hcc : cmt (t.drop j) = t.length - j := by rw [hi2, hdl]
      have hcc' := Lib.hid hcc
      clear hi1 hi2 hcc
      (repeat' (first | with_reducible (first | refine awp_seq ?_ | refine awp_region ?_ | refine awp_block ?_ | refine awp_ret ?_ | refine awp_skip ?_ | refine awpL_nil ?_ | refine dr_nil ?_ | refine thenA_normal ?_ | refine thenA_ret ?_ | refine inBlockA_normal ?_ | refine inBlockA_ret ?_) | (with_reducible refine awp_drawnQ mixed ?_ ?_; (decide +kernel)) | (refine awp_cond _ rfl (fun h => ?_) (fun h => ?_) <;> first | (exact absurd h (by decide)) | ((try (simp only [whn] at h)); first | (exfalso; omega; done) | skip)) | ((first | apply awpL_evl2 rfl | apply dr_evl2 rfl); (case h => ((first | (apply Evl_k 0 rfl; (first | exact Evl_mv _ rfl | exact Evl_as _ rfl)) | (apply Evl_k 4 rfl; (exact Evl_nil _ rfl (by first | exact .inl ⟨_, rfl⟩ | fail))) | (apply Evl_k 5 rfl; (exact Evl_field_x _ _ _ _ _ _ rfl rfl HFld.out)) | (apply Evl_k 6 rfl; (exact Evl_load _ _ _ _ _ _ _ _ rfl rfl FBox.out HAgg.out (by first | exact Nat.le_of_ble_eq_true rfl | fail) (by first | exact Nat.le_of_ble_eq_true rfl | fail))) | (apply Evl_k 8 rfl; (exact Evl_index_str _ _ _ _ _ _ _ rfl rfl rfl (by kernel_rfl) rfl (by omega))) | (apply Evl_k 9 rfl; (exact Evl_slice_str _ _ _ _ _ _ _ rfl rfl (by kernel_rfl) (by first | exact .inr ⟨_, _, rfl, rfl⟩ | fail) (by first | exact .inl ⟨rfl, rfl⟩ | fail) (by omega) (by omega))) | (apply Evl_k 11 rfl; (exact Evl_call 115 Tryz.f115 _ _ rfl rfl Tryz.func115 (by decide) rfl (VwL.refl _ _) (hib))) | (apply Evl_x; (case hs => (intro _ _ h; cases h)); (case hx => rfl); (case hrun => (intro w; simp [wtb, AV.val, go_sem]; (try go_bits); rfl)))))); (case hT => ((try simp (disch := omega) only [wtn, scc, List.take_length, List.drop_zero, hdl, List.append_eq, List.foldl_cons, List.foldl_nil, List.map_cons, List.map_nil, Nat.reduceAdd, Nat.reduceMul, Nat.reduceSub, ↓reduceIte, Nat.reduceEqDiff]); rfl))) | (refine awpL_cons rfl ?_; ((first | (refine Stp_k 11 rfl ?_; (first | (refine Stp_call 76 Tryz.f76 ([_]) _ _ _ rfl rfl Tryz.func76 (by decide) rfl (List.Perm.refl _) (VwL.refl _ _) (advance_s b t j L C 1 (by omega) (by omega) (by omega)) ?_; rintro _ _ rfl) | (refine Stp_call 76 Tryz.f76 ([_]) _ _ _ rfl rfl Tryz.func76 (by decide) rfl (List.Perm.refl _) (VwL.refl _ _) (advance_s b t j L C (t.length - j) (by omega) (by omega) (by omega)) ?_; rintro _ _ rfl))) | (refine Stp_k 16 rfl ?_; ((refine Stp_store _ _ _ _ _ _ _ rfl rfl FBox.out HSize.out (by first | rfl | fail) (by first | exact Nat.le_of_ble_eq_true rfl | fail) ?_)))); apply awpL_cong; (case hT => ((try simp (disch := omega) only [wtn, scc, List.take_length, List.drop_zero, hdl, List.append_eq, List.foldl_cons, List.foldl_nil, List.map_cons, List.map_nil, Nat.reduceAdd, Nat.reduceMul, Nat.reduceSub, ↓reduceIte, Nat.reduceEqDiff]); rfl)); (case hH => ((try simp (disch := omega) only [wtn, scc, List.take_length, List.drop_zero, hdl, List.append_eq, List.foldl_cons, List.foldl_nil, List.map_cons, List.map_nil, Nat.reduceAdd, Nat.reduceMul, Nat.reduceSub, ↓reduceIte, Nat.reduceEqDiff]); rfl)))) | fail))
      all_goals first
        | (have es := skp_b hd'.out (by omega)
           have e2 := h2'.out
           refine ⟨j + 1, by omega, ⟨by omega, by omega⟩, ?_⟩
           rw [hpn'.out]
           first
             | (rw [if_pos (by omega)]; exact (Weak.mk' [] _ (List.Perm.refl _) (VwHs.refl _ _) (by (repeat' (first | exact VwL.nil | (refine VwL.cons ?_ ?_) | exact Vw.refl _ | exact Vw.top _ | fail)))))
             | (rw [if_neg (by omega)]; exact (Weak.mk' [] _ (List.Perm.refl _) (VwHs.refl _ _) (by (repeat' (first | exact VwL.nil | (refine VwL.cons ?_ ?_) | exact Vw.refl _ | exact Vw.top _ | fail))))))
        | (have es := skp_c hd'.out (by omega)
           have e2 := h2'.out
           have e3 := hcc'.out
           rw [List.drop_drop] at es
           rw [e3] at es
           refine ⟨j + (t.length - j), by omega, ⟨by omega, by omega⟩, ?_⟩
           have e4 := hcm'.out
           rw [e3] at e4
           rw [← e4]
           exact (Weak.mk' [] _ (List.Perm.refl _) (VwHs.refl _ _) (by (repeat' (first | exact VwL.nil | (refine VwL.cons ?_ ?_) | exact Vw.refl _ | exact Vw.top _ | fail)))))
        | (have es := skp_n hd'.out (by omega) (by omega)
           have e2 := h2'.out
           have ek : nxk t k = j := by unfold nxk; omega
           have e5 := hLC.out
           rw [ek, e5.1, e5.2]
           exact endA_ret _ _ (Res0 rfl (Weak.mk' [] _ (List.Perm.refl _) (VwHs.refl _ _) (by (repeat' (first | exact VwL.nil | fail))))) rfl)
        | trace_state
    · rw [hi1] at hib
      have htl : ((t.drop j).take (cmt (t.drop j))).length = cmt (t.drop j) := by rw [List.length_take, hdl]; omega
      generalize hrs : (t.drop j).take (cmt (t.drop j)) = rs at htl
      (repeat' (first | with_reducible (first | refine awp_seq ?_ | refine awp_region ?_ | refine awp_block ?_ | refine awp_ret ?_ | refine awp_skip ?_ | refine awpL_nil ?_ | refine dr_nil ?_ | refine thenA_normal ?_ | refine thenA_ret ?_ | refine inBlockA_normal ?_ | refine inBlockA_ret ?_) | (with_reducible refine awp_drawnQ mixed ?_ ?_; (decide +kernel)) | (refine awp_cond _ rfl (fun h => ?_) (fun h => ?_) <;> first | (exact absurd h (by decide)) | ((try (simp only [whn] at h)); first | (exfalso; omega; done) | skip)) | ((first | apply awpL_evl2 rfl | apply dr_evl2 rfl); (case h => ((first | (apply Evl_k 0 rfl; (first | exact Evl_mv _ rfl | exact Evl_as _ rfl)) | (apply Evl_k 4 rfl; (exact Evl_nil _ rfl (by first | exact .inl ⟨_, rfl⟩ | fail))) | (apply Evl_k 5 rfl; (exact Evl_field_x _ _ _ _ _ _ rfl rfl HFld.out)) | (apply Evl_k 6 rfl; (exact Evl_load _ _ _ _ _ _ _ _ rfl rfl FBox.out HAgg.out (by first | exact Nat.le_of_ble_eq_true rfl | fail) (by first | exact Nat.le_of_ble_eq_true rfl | fail))) | (apply Evl_k 8 rfl; (exact Evl_index_str _ _ _ _ _ _ _ rfl rfl rfl (by kernel_rfl) rfl (by omega))) | (apply Evl_k 9 rfl; (exact Evl_slice_str _ _ _ _ _ _ _ rfl rfl (by kernel_rfl) (by first | exact .inl ⟨rfl, rfl⟩ | exact .inr ⟨_, _, rfl, rfl⟩ | fail) (by first | exact .inl ⟨rfl, rfl⟩ | exact .inr ⟨_, _, rfl, rfl⟩ | fail) (by omega) (by omega))) | (apply Evl_k 11 rfl; (exact Evl_call 115 Tryz.f115 _ _ rfl rfl Tryz.func115 (by decide) rfl (VwL.refl _ _) (hib))) | (apply Evl_x; (case hs => (intro _ _ h; cases h)); (case hx => rfl); (case hrun => (intro w; simp [wtb, AV.val, go_sem]; (try go_bits); rfl)))))); (case hT => ((try simp (disch := omega) only [wtn, scc, List.take_length, List.drop_zero, hdl, hrs, htl, List.append_eq, List.foldl_cons, List.foldl_nil, List.map_cons, List.map_nil, Nat.reduceAdd, Nat.reduceMul, Nat.reduceSub, ↓reduceIte, Nat.reduceEqDiff]); rfl))) | (refine awpL_cons rfl ?_; ((first | (refine Stp_k 11 rfl ?_; (first | (refine Stp_call 76 Tryz.f76 ([_]) _ _ _ rfl rfl Tryz.func76 (by decide) rfl (List.Perm.refl _) (VwL.refl _ _) (advance_s b t j L C 1 (by omega) (by omega) (by omega)) ?_; rintro _ _ rfl) | (refine Stp_call 76 Tryz.f76 ([_]) _ _ _ rfl rfl Tryz.func76 (by decide) rfl (List.Perm.refl _) (VwL.refl _ _) (advance_s b t j L C (cmt (t.drop j)) (by omega) (by omega) (by omega)) ?_; rintro _ _ rfl))) | (refine Stp_k 16 rfl ?_; ((refine Stp_store _ _ _ _ _ _ _ rfl rfl FBox.out HSize.out (by first | rfl | fail) (by first | exact Nat.le_of_ble_eq_true rfl | fail) ?_)))); apply awpL_cong; (case hT => ((try simp (disch := omega) only [wtn, scc, List.take_length, List.drop_zero, hdl, hrs, htl, List.append_eq, List.foldl_cons, List.foldl_nil, List.map_cons, List.map_nil, Nat.reduceAdd, Nat.reduceMul, Nat.reduceSub, ↓reduceIte, Nat.reduceEqDiff]); rfl)); (case hH => ((try simp (disch := omega) only [wtn, scc, List.take_length, List.drop_zero, hdl, hrs, htl, List.append_eq, List.foldl_cons, List.foldl_nil, List.map_cons, List.map_nil, Nat.reduceAdd, Nat.reduceMul, Nat.reduceSub, ↓reduceIte, Nat.reduceEqDiff]); rfl)))) | fail))
      all_goals first
        | (have es := skp_b hd'.out (by omega)
           have e2 := h2'.out
           refine ⟨j + 1, by omega, ⟨by omega, by omega⟩, ?_⟩
           rw [hpn'.out]
           first
             | (rw [if_pos (by omega)]; exact (Weak.mk' [] _ (List.Perm.refl _) (VwHs.refl _ _) (by (repeat' (first | exact VwL.nil | (refine VwL.cons ?_ ?_) | exact Vw.refl _ | exact Vw.top _ | fail)))))
             | (rw [if_neg (by omega)]; exact (Weak.mk' [] _ (List.Perm.refl _) (VwHs.refl _ _) (by (repeat' (first | exact VwL.nil | (refine VwL.cons ?_ ?_) | exact Vw.refl _ | exact Vw.top _ | fail))))))
        | (have es := skp_c hd'.out (by omega)
           have e2 := h2'.out
           have e3 := (rfl : cmt (t.drop j) = cmt (t.drop j))
           rw [List.drop_drop] at es
           rw [e3] at es
           refine ⟨j + cmt (t.drop j), by omega, ⟨by omega, by omega⟩, ?_⟩
           have e4 := hcm'.out
           rw [e3] at e4
           rw [← e4]
           exact (Weak.mk' [] _ (List.Perm.refl _) (VwHs.refl _ _) (by (repeat' (first | exact VwL.nil | (refine VwL.cons ?_ ?_) | exact Vw.refl _ | exact Vw.top _ | fail)))))
        | (have es := skp_n hd'.out (by omega) (by omega)
           have e2 := h2'.out
           have ek : nxk t k = j := by unfold nxk; omega
           have e5 := hLC.out
           rw [ek, e5.1, e5.2]
           exact endA_ret _ _ (Res0 rfl (Weak.mk' [] _ (List.Perm.refl _) (VwHs.refl _ _) (by (repeat' (first | exact VwL.nil | fail))))) rfl)
        | trace_state
  · have e : t.drop j = [] := List.drop_eq_nil_of_le (by omega)
    have e2 := h2'.out
    rw [e, skp_nil] at e2
    have ek : nxk t k = j := by unfold nxk; omega
    rw [ek]
    (repeat' (first | with_reducible (first | refine awp_seq ?_ | refine awp_exit ?_ | refine dr_nil ?_ | refine thenA_normal ?_ | refine thenA_exit ?_ | refine inBlockA_eq ?_) | (with_reducible refine awp_drawnQ mixed ?_ ?_; (decide +kernel)) | (refine awp_cond _ rfl (fun h => ?_) (fun h => ?_) <;> ((try (simp only [whn] at h)); first | (exfalso; omega; done) | skip)) | ((apply dr_evl2 rfl); (case h => ((first | (apply Evl_k 0 rfl; (exact Evl_mv _ rfl)) | (apply Evl_k 4 rfl; (exact Evl_nil _ rfl (by first | exact .inl ⟨_, rfl⟩ | fail))) | (apply Evl_k 5 rfl; (exact Evl_field_x _ _ _ _ _ _ rfl rfl HFld.out)) | (apply Evl_k 6 rfl; (exact Evl_load _ _ _ _ _ _ _ _ rfl rfl FBox.out HAgg.out (by first | exact Nat.le_of_ble_eq_true rfl | fail) (by first | exact Nat.le_of_ble_eq_true rfl | fail))) | (apply Evl_x; (case hs => (intro _ _ h; cases h)); (case hx => rfl); (case hrun => (intro w; simp [wtb, AV.val, go_sem]; skip; rfl)))))); (case hT => ((try simp only [wtn]); rfl))) | fail))
    exact endA_normal _ _ (Res0 rfl (Weak.mk' [] _ (List.Perm.refl _) (VwHs.refl _ _) (by (repeat' (first | exact VwL.nil | fail))))) rfl
end Go.Proofs.YtkhhlmonhapmaaaGreatDoor
namespace Go.Proofs.YtkhhlmonhapmaaaGreatDoor
open Go.Shelf Go.RowKit
set_option maxHeartbeats 1000000 in
set_option maxRecDepth 100000 in
theorem cc_used (b : Nat) (w : World) (h0 : w.cell? ⟨b, 0, none⟩ = some (.pointer (some ⟨b, 0, none⟩))) :
    Calls Tryz.prog 140 #[.pointer (some ⟨b, 0, none⟩)] w fun e w' => e = .returned (.tuple #[]) ∧ w' = w := by
  obtain ⟨j, hj, _⟩ := Option.map_eq_some_iff.1 Builder_Extra_169.sizeBuilder
  go_enter Tryz.func140, Tryz.ntmps140
  go_wp2
  rw [Lib.run_neq_ptr_same w _ Tryz.underlying106 hj]
  go_wp2
  go_end0
  exact ⟨rfl, rfl⟩
set_option maxHeartbeats 1000000 in
set_option maxRecDepth 100000 in
theorem cc_fresh (b : Nat) (w : World) (h0 : w.cell? ⟨b, 0, none⟩ = some (.pointer none)) (hsh : w.shape? b = some (108, 2)) (hfz : w.frozen? ⟨b, 0, none⟩ = false) :
    Calls Tryz.prog 140 #[.pointer (some ⟨b, 0, none⟩)] w fun e w' => e = .returned (.tuple #[]) ∧ w' = w.setCell ⟨b, 0, none⟩ (.pointer (some ⟨b, 0, none⟩)) := by
  obtain ⟨j, hj, hjs⟩ := Option.map_eq_some_iff.1 Builder_Extra_169.sizeBuilder
  go_enter Tryz.func140, Tryz.ntmps140
  go_wp2
  rw [Lib.run_to_unsafe w ⟨b, 0, none⟩ Tryz.underlying106 Tryz.underlying122 hj (by rw [hjs]; decide) hsh (Nat.zero_lt_succ 1)]
  simp only [Result.andThen]
  rw [Oper.upon_value]
  go_wp2
  rw [run_callFunc_extern Tryz.func154 (by kernel_rfl) (by kernel_rfl) (by kernel_rfl) (e := Extern.AbiNoEscape.same) (by kernel_rfl)]
  rw [Lib.run_noEscape]
  simp only [Result.andThen]
  rw [Oper.upon_value]
  go_wp2
  rw [Lib.run_from_unsafe w ⟨b, 0, none⟩ Tryz.underlying122 Tryz.underlying106 hj hsh Builder_Extra_169.liesBuilder]
  simp only [Result.andThen]
  rw [Oper.upon_value]
  go_wp2
  go_end0
  exact ⟨rfl, rfl⟩
theorem cc_any (B b : Nat) (bs : List Value) (w : World) (h : Lib.IsBuilder 108 5 B b bs w) :
    Calls Tryz.prog 140 #[.pointer (some ⟨b, 0, none⟩)] w fun e w' => e = .returned (.tuple #[]) ∧ (Lib.BuilderAt 108 5 B b (.pointer (some ⟨b, 0, none⟩)) bs w' ∧ Below B w w') := by
  rcases h with h | h
  · refine (cc_fresh b w h.cell0 h.shape h.frozen0).mono ?_
    rintro e w' ⟨rfl, rfl⟩
    exact ⟨rfl, h.used _, (Below.refl B w).setCell (p := ⟨b, 0, none⟩) h.1 _⟩
  · refine (cc_used b w h.cell0).mono ?_
    rintro e w' ⟨rfl, rfl⟩
    exact ⟨rfl, h, Below.refl B _⟩
set_option maxHeartbeats 2000000 in
set_option maxRecDepth 100000 in
theorem wbyte (B b : Nat) (bs : List Value) (c : Int) (w : World) (h : Lib.IsBuilder 108 5 B b bs w) (hlen : bs.length + 1 ≤ 140737488355328) (hBw : B ≤ w.heap.size) :
    Calls Tryz.prog 130 #[.pointer (some ⟨b, 0, none⟩), .int .u8 c] w fun e w' => e = .returned .nilIface ∧ (Lib.BuilderAt 108 5 B b (.pointer (some ⟨b, 0, none⟩)) (bs ++ [.int .u8 c]) w' ∧ Below B w w') := by
  obtain ⟨i0, hi, hz0, hz1, hz2⟩ := info_parts Builder_Extra_169.infoByte
  go_enter Tryz.func130, Tryz.ntmps130
  go_wp2_with (go_at_call 140; refine (cc_any B b bs _ h).mono ?_)
  rintro e w1 ⟨rfl, h1, hb1⟩
  obtain ⟨hB, v, hbk, hown, hne⟩ := h1
  have c0 : w1.cell? ⟨b, 0, none⟩ = some (.pointer (some ⟨b, 0, none⟩)) := by rw [Lib.cell_of_heap hbk]; rfl
  have c1 : w1.cell? ⟨b, 1, none⟩ = some v := by rw [Lib.cell_of_heap hbk]; rfl
  go_wp2_with (at_builtin; refine wpList_append_own _ rfl _ _ 59 rfl B 5 i0 (.int .u8 0) 1 1 Tryz.underlying59 hi hz0 hz1 hz2 rfl (by decide) _ _ _ rfl (hown.alloc _) ⟨w1.heap.size, 0, none⟩ 1 1 [.int .u8 c] rfl rfl ?c1 ?c2 ?c3 ?c4 ?c5 ?_)
  case c1 =>
    intro j u hj
    match j, hj with
    | 0, hj => simp at hj; subst hj; simp [Addr.add]
  case c2 => intro u hu; simp at hu; subst hu; rfl
  case c3 => unfold maxLen; omega
  case c4 => omega
  case c5 => have := hb1.size; simp; omega
  intro v' w2 hown' hgrow _
  have hlt : b < w1.heap.size := by
    rcases Nat.lt_or_ge b w1.heap.size with h' | h'
    · exact h'
    · simp [Array.getElem?_eq_none h'] at hbk
  have hb2 : w2.heap[b]? = some (.cells #[.pointer (some ⟨b, 0, none⟩), v] 108 (0, 0)) := by
    rw [hgrow.block b (by simp; omega) (fun e => hne e.symm), Lib.alloc_old w1 _ b hlt]
    exact hbk
  have d0 : w2.cell? ⟨b, 0, none⟩ = some (.pointer (some ⟨b, 0, none⟩)) := by rw [Lib.cell_of_heap hb2]; rfl
  have d1 : w2.cell? ⟨b, 1, none⟩ = some v := by rw [Lib.cell_of_heap hb2]; rfl
  have f1 : w2.frozen? ⟨b, 1, none⟩ = false := Lib.frozen_of_heap hb2 1
  obtain ⟨g, cap, rfl⟩ : ∃ g cap, v' = .slice (some ⟨g, 0, none⟩) (bs.length + 1) cap := by
    rcases hown'.2 with ⟨_, h0⟩ | ⟨g, cap, cur, hv, _⟩
    · omega
    · exact ⟨g, cap, hv⟩
  go_wp2
  go_ret
  refine ⟨rfl, ?_, ?_⟩
  · exact Lib.BuilderAt.put (T := 108) (e := 5) hB hb2 (bs' := bs ++ [.int .u8 c]) (by simpa using hown') Builder_Extra_169.neB5
  · exact ((hb1.alloc (by have := hb1.size; omega) _).grown hgrow (by have := hb1.size; simp; omega) (fun k hk => (hown.lt k hk).1)).setCell (p := ⟨b, 1, none⟩) hB _
end Go.Proofs.YtkhhlmonhapmaaaGreatDoor
namespace Go.Proofs.YtkhhlmonhapmaaaGreatDoor
open Go.RowKit
theorem escaped_c (l : List UInt8) (hl : l.length ≤ 1000000) (w : World) (hg : Gw w) : Calls Tryz.prog 135 #[.string (bs l)] w fun e w' => e = .returned (.tuple #[.int .u8 ((escR l).1.toNat : Nat), .int .i64 ((escR l).2 : Nat)]) ∧ Ext w w' := by
  have h0 : DenL (fun _ => False) w [.x (.string (bs l))] [.string (bs l)] := DenL.cons' (den_x _) DenL.nil'
  have := escaped_s l hl (fun _ => False) w [.string (bs l)] (fun _ h => h.elim) ⟨by simp, List.Pairwise.nil, by simp⟩ (h0.weak fun k hk => by rcases hk with hk | ⟨x, hx, _⟩; exact hk; cases hx) (GL.none hg |>.mono fun k ⟨x, hx, _⟩ => by cases hx)
  refine this.mono fun e w' ⟨r, H', v, ⟨hr, _⟩, he, hdv, _, hfr, _⟩ => ?_
  subst hr
  rw [Den] at hdv
  obtain ⟨vals, rfl, hd⟩ := hdv
  have e2 := DenL.exact' (l := [.int .u8 ((escR l).1.toNat : Nat), .int .i64 ((escR l).2 : Nat)]) hd
  subst e2
  exact ⟨he, Fr.ext ⟨hfr.os, hfr.tape, hfr.output, hfr.size, fun k hk hn => hfr.block k hk fun ⟨x, hx, _⟩ => by cases hx⟩⟩
theorem own_ext {B : Nat} {e : TypeId} {size n : Nat} {v : Value} {bs : List Value} {w w' : World} (h : w.ownsRow B e size v n bs) (hE : Ext w w') : w'.ownsRow B e size v n bs := by
  obtain ⟨h1, h2 | ⟨g, cap, cur, e1, e2, e3, e4, e5, e6, e7⟩⟩ := h
  · exact ⟨h1, .inl h2⟩
  · have hlt : g < w.heap.size := (Array.getElem?_eq_some_iff.1 e3).1
    exact ⟨h1, .inr ⟨g, cap, cur, e1, e2, by rw [hE.block g hlt]; exact e3, e4, e5, e6, e7⟩⟩
theorem at_ext {B b : Nat} {p : Value} {bs : List Value} {w w' : World} (h : Lib.BuilderAt 108 5 B b p bs w) (hE : Ext w w') : Lib.BuilderAt 108 5 B b p bs w' := by
  obtain ⟨h1, v, h2, h3, h4⟩ := h
  have hlt : b < w.heap.size := (Array.getElem?_eq_some_iff.1 h2).1
  exact ⟨h1, v, by rw [hE.block b hlt]; exact h2, own_ext h3 hE, h4⟩
theorem is_ext {B b : Nat} {bs : List Value} {w w' : World} (h : Lib.IsBuilder 108 5 B b bs w) (hE : Ext w w') : Lib.IsBuilder 108 5 B b bs w' := h.imp (at_ext · hE) (at_ext · hE)
def quoR (x : Option (List UInt8 × Nat)) : Value := match x with | none => .tuple #[.string (bs []), .int .i64 0, .bool false] | some x => .tuple #[.string (bs x.1), .int .i64 ((x.2 : Nat) + 1), .bool true]
set_option maxRecDepth 100000 in
set_option maxHeartbeats 8000000 in
theorem quoted_c (l : List UInt8) (w : World) (hg : Gw w) (h0 : 0 < l.length) (hl : l.length ≤ 100000) : Calls Tryz.prog 120 #[.string (bs l)] w fun e w' => e = .returned (quoR (quo (l.drop 1))) ∧ Ext w w' := by
  go_enter Tryz.func120, Tryz.ntmps120
  go_wp2_with fail
  go_loopw [6] (fun i wr => ∃ (k : Nat) (out : List UInt8), 1 ≤ k ∧ k ≤ l.length ∧ i = .int .i64 k ∧ Lib.IsBuilder 108 5 w.heap.size w.heap.size (Lib.byteCells out) wr ∧ Ext w wr ∧ out.length ≤ k ∧ Hid (quo (l.drop 1) = (quo (l.drop k)).map fun x => (out ++ x.1, (k - 1) + x.2))) (fun i _ => l.length - (intOf i).toNat)
  case atStart =>
    refine ⟨1, [], Nat.le_refl _, h0, rfl, .inl ⟨Nat.le_refl _, .slice none 0 0, by unfold World.alloc; exact Array.getElem?_push_size, ⟨rfl, .inl ⟨rfl, rfl⟩⟩, by intro h; cases h⟩, Ext.al _ _, Nat.zero_le _, Lib.hid (by cases quo (l.drop 1) <;> simp)⟩
  case round =>
    obtain ⟨k, out, h1, hk, rfl, hB, hE, hol, hQ⟩ := hrel
    have hz : w.heap.size ≤ wr.heap.size := hE.size
    have hbl : (Lib.byteCells out).length = out.length := by simp [Lib.byteCells]
    by_cases hlt : k < l.length
    · have hd := Lib.hid (drop_cons hlt)
      by_cases h34 : l[k].toNat = 34
      · have hQ2 : Hid (quo (l.drop 1) = some (out, k)) := Lib.hid (by rw [hQ.out, hd.out, quo_end _ _ h34]; simp; omega)
        clear hQ hd
        have b1 : ((l[k].toNat : Int) == 34) = true := by rw [beq_iff_eq]; omega
        go_wp2_with (go_at_call 68; refine (Builder_String_any w.heap.size w.heap.size out _ hB hz).mono ?_; rintro e w1 ⟨rfl, hb1⟩)
        go_ret3
        exact ⟨by rw [hQ2.out]; simp [quoR, bs], Below.trans hE hb1⟩
      · have b1 : ((l[k].toNat : Int) == 34) = false := by rw [beq_eq_false_iff_ne]; omega
        by_cases h32 : l[k].toNat < 32
        · have hQ2 : Hid (quo (l.drop 1) = none) := Lib.hid (by rw [hQ.out, hd.out, quo_no _ _ h34 (by rw [part_cons, if_pos (.inl h32)])]; rfl)
          clear hQ hd
          go_wp2_with fail
          go_ret3
          exact ⟨by rw [hQ2.out]; simp [quoR, bs_nil], hE⟩
        · by_cases h92 : l[k].toNat = 92
          · cases hes : escd (l.drop (k + 1)) with
            | none =>
              have hQ2 : Hid (quo (l.drop 1) = none) := Lib.hid (by rw [hQ.out, hd.out, quo_no _ _ h34 (by rw [part_cons, if_neg (by omega), if_neg (by omega), hes]; rfl)]; rfl)
              clear hQ hd
              have b2 : ((l[k].toNat : Int) == 92) = true := by rw [beq_iff_eq]; omega
              go_wp2_with fail
              refine Calls.mono (escaped_c (l.drop (k + 1)) (by simp; omega) _ (hg.ext hE)) ?_
              rintro e w1 ⟨rfl, hw1⟩
              rw [escR_none hes]
              go_wp2_with fail
              go_ret3
              exact ⟨by rw [hQ2.out]; simp [quoR, bs_nil], hE.tr hw1⟩
            | some x =>
              obtain ⟨b, n⟩ := x
              have hle := escd_le hes
              rw [List.length_drop] at hle
              have hQ2 : Hid (quo (l.drop 1) = (quo (l.drop (k + (1 + n)))).map fun x => ((out ++ [b]) ++ x.1, (k + (1 + n) - 1) + x.2)) := Lib.hid (by
                rw [hQ.out, hd.out, quo_part _ _ b (n + 1) h34 (by rw [part_cons, if_neg (by omega), if_neg (by omega), hes]; rfl), ← hd.out, List.drop_drop, Option.map_map, show k + (n + 1) = k + (1 + n) by omega]
                congr 1
                funext y
                simp only [Function.comp, List.append_assoc, List.singleton_append, Prod.mk.injEq, true_and]
                omega)
              clear hQ hd
              have b2 : ((l[k].toNat : Int) == 92) = true := by rw [beq_iff_eq]; omega
              go_wp2_with fail
              refine Calls.mono (escaped_c (l.drop (k + 1)) (by simp; omega) _ (hg.ext hE)) ?_
              rintro e w1 ⟨rfl, hw1⟩
              rw [escR_some hes]
              have hB1 := is_ext hB hw1
              have hz1 : w.heap.size ≤ w1.heap.size := Nat.le_trans hz hw1.size
              have b3 : ((n : Int) == 0) = false := by rw [beq_eq_false_iff_ne]; omega
              go_wp2_with (go_at_call 130; refine (wbyte w.heap.size w.heap.size (Lib.byteCells out) b.toNat _ hB1 (by omega) hz1).mono ?_; rintro e w2 ⟨rfl, hB2, hb2⟩)
              have hB3 : Lib.BuilderAt 108 5 w.heap.size w.heap.size (.pointer (some ⟨w.heap.size, 0, none⟩)) (Lib.byteCells (out ++ [b])) w2 := by
                have : Lib.byteCells (out ++ [b]) = Lib.byteCells out ++ [.int .u8 b.toNat] := by simp [Lib.byteCells]
                rw [this]; exact hB2
              go_roundw
              case rel => exact ⟨k + (1 + n), out ++ [b], by omega, by omega, by go_num, .inr hB3, Below.trans (hE.tr hw1) hb2, by simp; omega, hQ2⟩
              case measure => simp [intOf]; omega
          · have hQ2 : Hid (quo (l.drop 1) = (quo (l.drop (k + 1))).map fun x => ((out ++ [l[k]]) ++ x.1, (k + 1 - 1) + x.2)) := Lib.hid (by
              rw [hQ.out, hd.out, quo_part _ _ l[k] 1 h34 (by rw [part_cons, if_neg (by omega), if_pos h92]), List.drop_succ_cons, List.drop_zero, Option.map_map]
              congr 1
              funext y
              simp only [Function.comp, List.append_assoc, List.singleton_append, Prod.mk.injEq, true_and]
              omega)
            clear hQ hd
            have b2 : ((l[k].toNat : Int) == 92) = false := by rw [beq_eq_false_iff_ne]; omega
            go_wp2_with (go_at_call 130; refine (wbyte w.heap.size w.heap.size (Lib.byteCells out) l[k].toNat _ hB (by omega) hz).mono ?_; rintro e w1 ⟨rfl, hB2, hb2⟩)
            have hB3 : Lib.BuilderAt 108 5 w.heap.size w.heap.size (.pointer (some ⟨w.heap.size, 0, none⟩)) (Lib.byteCells (out ++ [l[k]])) w1 := by
              have : Lib.byteCells (out ++ [l[k]]) = Lib.byteCells out ++ [.int .u8 l[k].toNat] := by simp [Lib.byteCells]
              rw [this]; exact hB2
            go_roundw
            case rel => exact ⟨k + 1, out ++ [l[k]], by omega, by omega, by go_num, .inr hB3, Below.trans hE hb2, by simp; omega, hQ2⟩
            case measure => simp [intOf]; omega
    · have hQ2 : Hid (quo (l.drop 1) = none) := Lib.hid (by rw [hQ.out, List.drop_eq_nil_of_le (by omega), quo_nil]; rfl)
      clear hQ
      go_wp2_with fail
      go_ret3
      exact ⟨by rw [hQ2.out]; simp [quoR, bs_nil], hE⟩
theorem quoted_s (l : List UInt8) (h0 : 0 < l.length) (hl : l.length ≤ 100000) (H : List Hp) : Spec Tryz.prog 120 H [.x (.string (bs l))] (fun r H' => r = .x (quoR (quo (l.drop 1))) ∧ H' = H) :=
  Spec_callsG (args := [.string (bs l)]) (fun w hg => quoted_c l w hg h0 hl) H
end Go.Proofs.YtkhhlmonhapmaaaGreatDoor
namespace Go.Proofs.YtkhhlmonhapmaaaGreatDoor
open Go.RowKit
theorem bcells_snoc (out : List UInt8) (b : UInt8) : Lib.byteCells out ++ [.int .u8 b.toNat] = Lib.byteCells (out ++ [b]) := by simp [Lib.byteCells]
set_option maxRecDepth 100000 in
set_option maxHeartbeats 8000000 in
theorem pattern_c (l : List UInt8) (w : World) (h0 : 0 < l.length) (hl : l.length ≤ 100000) : Calls Tryz.prog 121 #[.string (bs l)] w fun e w' => e = .returned (quoR (sla (l.drop 1))) ∧ Ext w w' := by
  go_enter Tryz.func121, Tryz.ntmps121
  go_wp2_with fail
  go_loopw [6] (fun i wr => ∃ (k : Nat) (out : List UInt8), 1 ≤ k ∧ k ≤ l.length ∧ i = .int .i64 k ∧ Lib.IsBuilder 108 5 w.heap.size w.heap.size (Lib.byteCells out) wr ∧ Ext w wr ∧ out.length ≤ k ∧ Hid (sla (l.drop 1) = (sla (l.drop k)).map fun x => (out ++ x.1, (k - 1) + x.2))) (fun i _ => l.length - (intOf i).toNat)
  case atStart =>
    refine ⟨1, [], Nat.le_refl _, h0, rfl, .inl ⟨Nat.le_refl _, .slice none 0 0, by unfold World.alloc; exact Array.getElem?_push_size, ⟨rfl, .inl ⟨rfl, rfl⟩⟩, by intro h; cases h⟩, Ext.al _ _, Nat.zero_le _, Lib.hid (by cases sla (l.drop 1) <;> simp)⟩
  case round =>
    obtain ⟨k, out, h1, hk, rfl, hB, hE, hol, hQ⟩ := hrel
    have hz : w.heap.size ≤ wr.heap.size := hE.size
    have hbl : (Lib.byteCells out).length = out.length := by simp [Lib.byteCells]
    by_cases hlt : k < l.length
    · have hd := Lib.hid (drop_cons hlt)
      by_cases h47 : l[k].toNat = 47
      · have hQ2 : Hid (sla (l.drop 1) = some (out, k)) := Lib.hid (by rw [hQ.out, hd.out, sla_end _ _ h47]; simp; omega)
        clear hQ hd
        have b1 : ((l[k].toNat : Int) == 47) = true := by rw [beq_iff_eq]; omega
        go_wp2_with (go_at_call 68; refine (Builder_String_any w.heap.size w.heap.size out _ hB hz).mono ?_; rintro e w1 ⟨rfl, hb1⟩)
        go_ret3
        exact ⟨by rw [hQ2.out]; simp [quoR, bs], Below.trans hE hb1⟩
      · have b1 : ((l[k].toNat : Int) == 47) = false := by rw [beq_eq_false_iff_ne]; omega
        by_cases h32 : l[k].toNat < 32
        · have hQ2 : Hid (sla (l.drop 1) = none) := Lib.hid (by rw [hQ.out, hd.out, sla_bad _ _ h32]; rfl)
          clear hQ hd
          go_wp2_with fail
          go_ret3
          exact ⟨by rw [hQ2.out]; simp [quoR, bs_nil], hE⟩
        · by_cases h92 : l[k].toNat = 92
          · have b2 : ((l[k].toNat : Int) == 92) = true := by rw [beq_iff_eq]; omega
            by_cases hlt2 : k + 1 < l.length
            · have hd2 := Lib.hid (drop_cons hlt2)
              by_cases hd32 : l[k + 1].toNat < 32
              · have hQ2 : Hid (sla (l.drop 1) = none) := Lib.hid (by rw [hQ.out, hd.out, hd2.out, sla_bad2 _ _ _ h92 hd32]; rfl)
                clear hQ hd hd2
                have b3 : ((k : Int) + 1 == (l.length : Int)) = false := by rw [beq_eq_false_iff_ne]; omega
                go_wp2_with fail
                go_ret3
                exact ⟨by rw [hQ2.out]; simp [quoR, bs_nil], hE⟩
              · by_cases hd47 : l[k + 1].toNat = 47
                · have hQ2 : Hid (sla (l.drop 1) = (sla (l.drop (k + 2))).map fun x => ((out ++ [l[k + 1]]) ++ x.1, (k + 2 - 1) + x.2)) := Lib.hid (by
                    rw [hQ.out, hd.out, hd2.out, sla_esc _ _ _ h92 hd47, Option.map_map]
                    congr 1
                    funext y
                    simp only [Function.comp, List.append_assoc, List.singleton_append, Prod.mk.injEq, true_and]
                    omega)
                  clear hQ hd hd2
                  have b3 : ((k : Int) + 1 == (l.length : Int)) = false := by rw [beq_eq_false_iff_ne]; omega
                  have b4 : ((l[k + 1].toNat : Int) != 47) = false := by rw [bne_eq_false_iff_eq]; omega
                  clear hd47 h92
                  go_wp2_with fail
                  refine Calls.mono (wbyte w.heap.size w.heap.size (Lib.byteCells out) l[k + 1].toNat _ hB (by omega) hz) ?_
                  rintro e w1 ⟨rfl, hB2, hb2⟩
                  rw [bcells_snoc] at hB2
                  go_wp2_with fail
                  go_roundw
                  case rel => exact ⟨k + 2, out ++ [l[k + 1]], by omega, by omega, by go_num, .inr hB2, Below.trans hE hb2, by simp; omega, hQ2⟩
                  case measure => simp [intOf]; omega
                · have hQ2 : Hid (sla (l.drop 1) = (sla (l.drop (k + 2))).map fun x => ((out ++ [l[k]] ++ [l[k + 1]]) ++ x.1, (k + 2 - 1) + x.2)) := Lib.hid (by
                    rw [hQ.out, hd.out, hd2.out, sla_two _ _ _ h92 (by omega) hd47, Option.map_map]
                    congr 1
                    funext y
                    simp only [Function.comp, List.append_assoc, List.singleton_append, List.cons_append, List.nil_append, Prod.mk.injEq, true_and]
                    omega)
                  clear hQ hd hd2
                  have b3 : ((k : Int) + 1 == (l.length : Int)) = false := by rw [beq_eq_false_iff_ne]; omega
                  have b4 : ((l[k + 1].toNat : Int) != 47) = true := by rw [bne_iff_ne]; omega
                  have e92 : Lib.byteCells out ++ [.int .u8 92] = Lib.byteCells (out ++ [l[k]]) := by rw [← bcells_snoc, h92]; rfl
                  clear hd47 h92
                  go_wp2_with fail
                  refine Calls.mono (wbyte w.heap.size w.heap.size (Lib.byteCells out) 92 _ hB (by omega) hz) ?_
                  rintro e w1 ⟨rfl, hB2, hb2⟩
                  rw [e92] at hB2
                  have hz1 : w.heap.size ≤ w1.heap.size := Nat.le_trans hz hb2.size
                  have hbl1 : (Lib.byteCells (out ++ [l[k]])).length = out.length + 1 := by simp [Lib.byteCells]
                  go_wp2_with fail
                  refine Calls.mono (wbyte w.heap.size w.heap.size (Lib.byteCells (out ++ [l[k]])) l[k + 1].toNat _ (.inr hB2) (by omega) hz1) ?_
                  rintro e w2 ⟨rfl, hB3, hb3⟩
                  rw [bcells_snoc] at hB3
                  go_wp2_with fail
                  go_roundw
                  case rel => exact ⟨k + 2, out ++ [l[k]] ++ [l[k + 1]], by omega, by omega, by go_num, .inr hB3, Below.trans (Below.trans hE hb2) hb3, by simp; omega, hQ2⟩
                  case measure => simp [intOf]; omega
            · have hQ2 : Hid (sla (l.drop 1) = none) := Lib.hid (by rw [hQ.out, hd.out, List.drop_eq_nil_of_le (by omega), sla_last _ h92]; rfl)
              clear hQ hd
              have b3 : ((k : Int) + 1 == (l.length : Int)) = true := by rw [beq_iff_eq]; omega
              go_wp2_with fail
              go_ret3
              exact ⟨by rw [hQ2.out]; simp [quoR, bs_nil], hE⟩
          · have hQ2 : Hid (sla (l.drop 1) = (sla (l.drop (k + 1))).map fun x => ((out ++ [l[k]]) ++ x.1, (k + 1 - 1) + x.2)) := Lib.hid (by
              rw [hQ.out, hd.out, sla_one _ _ h47 (by omega) h92, Option.map_map]
              congr 1
              funext y
              simp only [Function.comp, List.append_assoc, List.singleton_append, Prod.mk.injEq, true_and]
              omega)
            clear hQ hd
            have b2 : ((l[k].toNat : Int) == 92) = false := by rw [beq_eq_false_iff_ne]; omega
            go_wp2_with (go_at_call 130; refine (wbyte w.heap.size w.heap.size (Lib.byteCells out) l[k].toNat _ hB (by omega) hz).mono ?_; rintro e w1 ⟨rfl, hB2, hb2⟩)
            rw [bcells_snoc] at hB2
            go_roundw
            case rel => exact ⟨k + 1, out ++ [l[k]], by omega, by omega, by go_num, .inr hB2, Below.trans hE hb2, by simp; omega, hQ2⟩
            case measure => simp [intOf]; omega
    · have hQ2 : Hid (sla (l.drop 1) = none) := Lib.hid (by rw [hQ.out, List.drop_eq_nil_of_le (by omega), sla_nil]; rfl)
      clear hQ
      go_wp2_with fail
      go_ret3
      exact ⟨by rw [hQ2.out]; simp [quoR, bs_nil], hE⟩
theorem pattern_s (l : List UInt8) (h0 : 0 < l.length) (hl : l.length ≤ 100000) (H : List Hp) : Spec Tryz.prog 121 H [.x (.string (bs l))] (fun r H' => r = .x (quoR (sla (l.drop 1))) ∧ H' = H) :=
  Spec_calls (args := [.string (bs l)]) (fun w => pattern_c l w h0 hl) H
end Go.Proofs.YtkhhlmonhapmaaaGreatDoor
