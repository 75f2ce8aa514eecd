import Derived.Test.YtdcjhndcklofoaaW21
/- The graph: order.-/
namespace Go.Proofs.Ytdcjhndcklofoaa
open Go.RowKit
set_option linter.unusedSimpArgs false
set_option linter.unusedVariables false
theorem nds_lt (l : List JA) (i x : Int) (h : x ∈ nds l i) : 0 ≤ x ∧ x < (l.length : Int) := by
  unfold nds at h
  split at h
  · obtain ⟨k, hk, -, rfl⟩ := (mem_ndsTo ..).1 h
    omega
  · cases h
theorem marks_spec (l : List JA) (d : List Int) (b c : Nat) (j : Int) (hj : 0 ≤ j ∧ j < (l.length : Int)) : Spec Try.prog 30 (brow b c l.length l.length (mks l d)) [.x (.int .i64 j), .x (.pointer (some ⟨b, 0, none⟩))] (fun r H' => r = .x (.bool (!d.contains j)) ∧ H' = brow b c l.length l.length (mks l d)) := by
  obtain ⟨k, rfl⟩ : ∃ k : Nat, j = k := ⟨j.toNat, by omega⟩
  have hk : k < (mks l d).length := by rw [mks_len]; omega
  have := order1_spec b c l.length l.length (mks l d) k (mks_len l d).symm hk
  rwa [mks_get] at this
set_option maxRecDepth 100000 in
set_option maxHeartbeats 8000000 in
theorem order_spec (l : List JA) (hl : l.length ≤ 1000000) : Spec Try.prog 17 [] [.sq l.length (na l)] (fun r H' => ∃ ad cap b c, r = .tup [.x (.slice ad (ord l).length cap), .x (.slice (some ⟨c, 0, none⟩) l.length l.length)] ∧ H' = brow b c l.length l.length (mks l (ord l)) ++ [.row ad (ord l).length cap 3 1 (ia (ord l))]) := by
  refine Spec_of Try.func17 rfl ?_
  simp only [Try.ntmps17, List.length_cons, List.length_nil, List.replicate_succ, List.replicate_zero, List.cons_append, List.nil_append, Nat.reduceAdd, Nat.reduceSub]
  (repeat' (first | with_reducible (first | refine awp_seq ?_ | refine awp_region ?_ | refine awpL_nil ?_ | refine thenA_normal ?_) | ((apply awpL_evl2 rfl); (case h => ((try (intro (hp : (_ : Bool) = true); ((try simp only [Bool.and_eq_true, Bool.not_eq_true', Bool.not_eq_true] at hp); (try simp only [hp, wte]); (try simp only [whn] at hp)))); ((apply Evl_k 0 rfl; (exact Evl_as _ rfl))))); (case hT => ((try simp only [wtn, List.append_eq, List.foldl_cons, List.foldl_nil, List.map_cons, List.map_nil, Nat.reduceAdd, Nat.reduceMul, Nat.reduceSub, ↓reduceIte, Nat.reduceEqDiff]); rfl))) | fail))
  refine awp_scopeK (S := List Int × Option Addr × Nat × Nat × Nat) 0 (fun s => frm 41 [(0, .sq l.length (na l)), (4, .x (.slice s.2.1 s.1.length s.2.2.1)), (5, .x (.pointer (some ⟨s.2.2.2.1, 0, none⟩))), (6, .x (.func (.func 30) #[] #[.pointer (some ⟨s.2.2.2.1, 0, none⟩)]))])
    (fun s => brow s.2.2.2.1 s.2.2.2.2 l.length l.length (mks l s.1) ++ [.row s.2.1 s.1.length s.2.2.1 3 1 (ia s.1)]) (fun s => Done l s.1) (fun s => l.length - s.1.length) rfl (fun s hs => ?_) (fun key => ?first)
  case first =>
    refine awp_nilrow 3 1 ?_
    (repeat' (first | with_reducible (first | refine awp_seq ?_ | refine awp_region ?_ | refine awpL_nil ?_ | refine thenA_normal ?_) | ((apply awpL_evl2 rfl); (case h => ((try (intro (hp : (_ : Bool) = true); ((try simp only [Bool.and_eq_true, Bool.not_eq_true', Bool.not_eq_true] at hp); (try simp only [hp, wte]); (try simp only [whn] at hp)))); (first | (apply Evl_k 0 rfl; (first | exact Evl_mv _ rfl | exact Evl_as _ rfl)) | (apply Evl_k 3 rfl; (exact Evl_len _ _ _ _ _ _ HEl.out rfl rfl)) | (apply Evl_x; (case hs => (intro _ _ h; cases h)); (case hx => rfl); (case hrun => (intro w; simp [wtb, AV.val, go_sem]; (try go_bits); rfl)))))); (case hT => ((try simp (disch := omega) only [wtn, mks_nil, List.append_eq, List.foldl_cons, List.foldl_nil, List.map_cons, List.map_nil, Nat.reduceAdd, Nat.reduceMul, Nat.reduceSub, ↓reduceIte, Nat.reduceEqDiff]); rfl))) | (refine awpL_cons rfl ?_; ((first | (refine Stp_k 14 rfl ?_; ((refine Stp_alloc _ _ rfl HZero.out rfl (fun b => ?_)))) | (refine Stp_k 16 rfl ?_; ((refine Stp_store _ _ _ _ _ _ _ rfl rfl FBox.out HSize.out (by first | rfl | fail) (by first | exact Nat.le_of_ble_eq_true rfl | fail) ?_))) | (refine Stp_k 18 rfl ?_; ((refine Stp_make _ _ _ _ _ _ _ _ l.length l.length rfl HElem.out rfl rfl rfl rfl (Nat.le_refl _) (fits _ _ (by omega) (by decide)) (fun c => ?_))))); apply awpL_cong; (case hT => ((try simp (disch := omega) only [wtn, mks_nil, List.append_eq, List.foldl_cons, List.foldl_nil, List.map_cons, List.map_nil, Nat.reduceAdd, Nat.reduceMul, Nat.reduceSub, ↓reduceIte, Nat.reduceEqDiff]); rfl)); (case hH => ((try simp (disch := omega) only [wtn, mks_nil, List.append_eq, List.foldl_cons, List.foldl_nil, List.map_cons, List.map_nil, Nat.reduceAdd, Nat.reduceMul, Nat.reduceSub, ↓reduceIte, Nat.reduceEqDiff]); rfl)))) | fail))
    refine awp_label ?_
    refine thenA_normal ?_
    refine awp_mono (awp_weak ?wk (key ([], none, 0, b, c) (Done.nil l))) ?mono
    case mono => exact fun e T H h => h
    case wk =>
      simp only [frm, List.replicate_succ, List.replicate_zero, List.foldl_cons, List.foldl_nil, List.set_cons_zero, List.set_cons_succ, brow, List.cons_append, List.nil_append]
      exact (Weak.mk' [] _ (List.Perm.refl _) (VwHs.refl _ _) (by (repeat' (first | exact VwL.nil | (refine VwL.cons ?_ ?_) | exact Vw.refl _ | exact Vw.top _ | fail))))
  · obtain ⟨d, ad, cap, bx, c⟩ := s
    simp only at hs
    have hle := hs.le
    have hs' := Lib.hid hs
    clear hs
    simp only [frm, List.replicate_succ, List.replicate_zero, List.foldl_cons, List.foldl_nil, List.set_cons_zero, List.set_cons_succ, brow, List.cons_append, List.nil_append]
    (repeat' (first | with_reducible (first | refine awp_seq ?_ | refine awp_region ?_ | refine awp_block ?_ | refine awpL_nil ?_ | refine thenA_normal ?_) | ((apply awpL_evl2 rfl); (case h => ((try (intro (hp : (_ : Bool) = true); ((try simp only [Bool.and_eq_true, Bool.not_eq_true', Bool.not_eq_true] at hp); (try simp only [hp, wte]); (try simp only [whn] at hp)))); (first | (apply Evl_k 0 rfl; (exact Evl_mv _ rfl)) | (apply Evl_k 3 rfl; (exact Evl_len _ _ _ _ _ _ HEl.out rfl rfl))))); (case hT => ((try simp only [wtn, List.append_eq, List.foldl_cons, List.foldl_nil, List.map_cons, List.map_nil, Nat.reduceAdd, Nat.reduceMul, Nat.reduceSub, ↓reduceIte, Nat.reduceEqDiff]); rfl))) | fail))
    refine awp_loopS (S := Nat) (fun k => frm 41 [(0, .sq l.length (na l)), (4, .x (.slice ad d.length cap)), (5, .x (.pointer (some ⟨bx, 0, none⟩))), (6, .x (.func (.func 30) #[] #[.pointer (some ⟨bx, 0, none⟩)])), (13, .x (.int .i64 l.length)), (14, .x (.int .i64 k))]) (fun _ => brow bx c l.length l.length (mks l d) ++ [.row ad d.length cap 3 1 (ia d)]) (fun k => k ≤ l.length ∧ ∀ j, j < k → rdy l d j = false) (fun k => l.length - k) 0 (Weak.mk' [] _ (List.Perm.refl _) (VwHs.refl _ _) (by (repeat' (first | exact VwL.nil | (refine VwL.cons ?_ ?_) | exact Vw.refl _ | exact Vw.top _ | fail)))) ⟨Nat.zero_le _, fun k hk => absurd hk (Nat.not_lt_zero k)⟩ fun k hk => ?_
    obtain ⟨h1, h2⟩ := hk
    have h2' := Lib.hid h2
    clear h2
    simp only [frm, List.replicate_succ, List.replicate_zero, List.foldl_cons, List.foldl_nil, List.set_cons_zero, List.set_cons_succ, brow, List.cons_append, List.nil_append]
    have hml := mks_len l d
    (repeat' (first | with_reducible (first | refine awp_seq ?_ | refine awp_region ?_ | refine awp_block ?_ | refine awp_skip ?_ | refine awp_exit ?_ | refine awpL_nil ?_ | refine thenA_normal ?_ | refine thenA_exit ?_ | refine inBlockA_eq ?_) | (refine awp_cond _ rfl (fun h => ?_) (fun h => ?_) <;> ((try (simp only [whn] at h)); skip)) | ((first | apply awpL_evl2 rfl | apply awpL_g2 _ _ rfl rfl rfl); (case h => ((try (intro (hp : (_ : Bool) = true); ((try simp only [Bool.and_eq_true, Bool.not_eq_true', Bool.not_eq_true] at hp); (try simp only [hp, wte]); (try simp only [whn] at hp)))); (first | (apply Evl_k 0 rfl; (first | exact Evl_mv _ rfl | exact Evl_as _ rfl)) | (apply Evl_k 6 rfl; (first | exact Evl_load_at _ _ _ _ _ rfl rfl HAgg.out (by first | exact Nat.le_of_ble_eq_true rfl | fail) (by first | exact Nat.le_of_ble_eq_true rfl | fail) | exact Evl_load _ _ _ _ _ _ _ _ rfl rfl FBox.out HAgg.out (by first | exact Nat.le_of_ble_eq_true rfl | fail) (by first | exact Nat.le_of_ble_eq_true rfl | fail) | exact Evl_load_row _ _ _ _ _ _ _ _ _ _ _ _ rfl rfl FRow.out HAgg.out (by first | (simp [wlq]; omega) | fail) (by first | (simp [wlq]; omega) | fail))) | (apply Evl_k 7 rfl; (first | exact Evl_index_sq _ _ _ _ _ _ _ _ _ _ rfl rfl rfl HEl.out rfl (by first | omega | fail) (by simp; first | omega | fail) | exact Evl_index_own _ _ _ _ _ _ _ _ _ _ _ _ rfl rfl rfl HEl.out rfl (by first | omega | fail))) | (apply Evl_x; (case hs => (intro _ _ h; cases h)); (case hx => rfl); (case hrun => (intro w; simp [wtb, AV.val, go_sem]; (try go_bits); rfl)))))); (case hT => ((try simp (disch := first | assumption | omega) only [wtn, ba_drop, na_drop, mks_len, List.append_eq, List.foldl_cons, List.foldl_nil, List.map_cons, List.map_nil, Nat.reduceAdd, Nat.reduceMul, Nat.reduceSub, ↓reduceIte, Nat.reduceEqDiff]); rfl))) | fail))
    · refine awpL_gs _ rfl rfl rfl (fun hp => ?_) (fun hp => ?_)
      · simp only [hp, List.map_cons, List.map_nil, str]
        refine Stp_k 11 rfl ?_
        refine Stp_call 31 _ (brow bx c l.length l.length (mks l d)) [.row ad d.length cap 3 1 (ia d)] _ _ rfl rfl Try.func31 (by decide) rfl (List.Perm.refl _) (VwL.refl _ _) (contf_spec (nds l k) _ 30 _ #[.pointer (some ⟨bx, 0, none⟩)] (fun j => !d.contains j) (by have := nds_le l k; omega) Try.func30 (by decide) rfl (fun j hj => marks_spec l d bx c j (nds_lt l k j hj))) ?_
        rintro _ _ ⟨rfl, rfl⟩
        generalize hA : ((nds l k).any fun j => !d.contains j) = A
        (try simp only [wtn, List.append_eq, List.foldl_cons, List.foldl_nil, List.map_cons, List.map_nil, Nat.reduceAdd, Nat.reduceMul, Nat.reduceSub, ↓reduceIte, Nat.reduceEqDiff])
        (repeat' (first | with_reducible (first | refine awp_seq ?_ | refine awp_region ?_ | refine awp_skip ?_ | refine awpL_nil ?_ | refine thenA_normal ?_ | refine inBlockA_normal ?_ | refine jumpA_goto ?_ | refine awp_goto ?_ | refine thenA_goto ?_ | refine inBlockA_goto ?_) | (refine awp_cond _ rfl (fun h => ?_) (fun h => ?_) <;> ((try (simp only [whn] at h)); skip)) | ((first | apply awpL_evl2 rfl | apply awpL_g2 _ _ rfl rfl rfl); (case h => ((try (intro (hp : (_ : Bool) = true); ((try simp only [Bool.and_eq_true, Bool.not_eq_true', Bool.not_eq_true] at hp); (try simp only [hp, wte]); (try simp only [whn] at hp)))); (first | (apply Evl_k 0 rfl; (first | exact Evl_mv _ rfl | exact Evl_as _ rfl)) | (apply Evl_k 1 rfl; (exact Evl_pickt _ _ _ rfl rfl)) | (apply Evl_k 6 rfl; (exact Evl_load _ _ _ _ _ _ _ _ rfl rfl FBox.out HAgg.out (by first | exact Nat.le_of_ble_eq_true rfl | fail) (by first | exact Nat.le_of_ble_eq_true rfl | fail))) | (apply Evl_k 7 rfl; (exact Evl_index_own _ _ _ _ _ _ _ _ _ _ _ _ rfl rfl rfl HEl.out rfl (by first | omega | fail))) | (apply Evl_x; (case hs => (intro _ _ h; cases h)); (case hx => rfl); (case hrun => (intro w; simp [wtb, AV.val, go_sem]; (try go_bits); rfl)))))); (case hT => ((try simp (disch := omega) only [wtn, ba_drop, spl_ba, List.append_eq, List.foldl_cons, List.foldl_nil, List.map_cons, List.map_nil, Nat.reduceAdd, Nat.reduceMul, Nat.reduceSub, ↓reduceIte, Nat.reduceEqDiff]); rfl))) | (refine awpL_cons rfl ?_; ((first | (refine Stp_k 13 rfl ?_; ((refine Stp_append _ _ _ _ _ _ _ _ _ _ _ _ _ _ rfl rfl FRow.out (Src.row _ rfl FRow.out) HElem.out (by first | rfl | fail) (fits _ _ (by omega) (by decide)) (fun ad cap => ?_)))) | (refine Stp_k 16 rfl ?_; ((refine Stp_store_row _ _ _ _ _ _ _ _ _ _ _ rfl rfl FRow.out HSize.out (by first | rfl | fail) (by first | (simp [wlq]; omega) | fail) ?_))) | (refine Stp_k 17 rfl ?_; ((refine Stp_buildSlice _ _ _ _ _ _ _ _ rfl HElem.out (by first | rfl | fail) rfl (by decide) rfl (fun b => ?_))))); apply awpL_cong; (case hT => ((try simp (disch := omega) only [wtn, ba_drop, spl_ba, List.append_eq, List.foldl_cons, List.foldl_nil, List.map_cons, List.map_nil, Nat.reduceAdd, Nat.reduceMul, Nat.reduceSub, ↓reduceIte, Nat.reduceEqDiff]); rfl)); (case hH => ((try simp (disch := omega) only [wtn, ba_drop, spl_ba, List.append_eq, List.foldl_cons, List.foldl_nil, List.map_cons, List.map_nil, Nat.reduceAdd, Nat.reduceMul, Nat.reduceSub, ↓reduceIte, Nat.reduceEqDiff]); rfl)))) | fail))
        · have hrd : rdy l d k = true := by
            rw [open_any] at hA
            rw [mks_get] at hp
            unfold rdy
            simp only [hp, Bool.true_and]
            rw [Bool.not_eq_eq_eq_not] at hA
            rw [hA, h]; rfl
          have hd2 := hs'.out.snoc (by assumption) hrd h2'.out
          have hle2 := hd2.le
          simp only [List.length_append, List.length_cons, List.length_nil] at hle2
          refine ⟨(d ++ [(k : Int)], ad, cap, bx, c), ?_, hd2, ?_⟩
          · simp only [List.length_append, List.length_cons, List.length_nil]; omega
          · simp only [ia_app, List.length_append, List.length_cons, List.length_nil, mks_set l d k (by assumption)]
            exact (Weak.mk' [_] [_, _, _] (List.Perm.refl _) (VwHs.refl _ _) (by (repeat' (first | exact VwL.nil | (refine VwL.cons ?_ ?_) | exact Vw.refl _ | exact Vw.top _ | fail))))
        · have hrd : rdy l d k = false := by
            rw [open_any] at hA
            unfold rdy
            rw [Bool.not_eq_eq_eq_not] at hA
            rw [hA, h]; simp
          exact ⟨k + 1, by omega, ⟨by omega, fun j hj => by
            by_cases e : j = k
            · subst e; exact hrd
            · exact h2'.out j (by omega)⟩, (Weak.mk' [] _ (List.Perm.refl _) (VwHs.refl _ _) (by (repeat' (first | exact VwL.nil | (refine VwL.cons ?_ ?_) | exact Vw.refl _ | exact Vw.top _ | fail))))⟩
      · simp only [hp]
        (try simp only [wtn, List.append_eq, List.foldl_cons, List.foldl_nil, List.map_cons, List.map_nil, Nat.reduceAdd, Nat.reduceMul, Nat.reduceSub, ↓reduceIte, Nat.reduceEqDiff])
        (repeat' (first | with_reducible (first | refine awp_region ?_ | refine awp_skip ?_ | refine awpL_nil ?_ | refine thenA_normal ?_ | refine inBlockA_normal ?_) | (refine awp_cond _ rfl (fun h => ?_) (fun h => ?_) <;> first | (exact absurd h (by decide)) | ((try (simp only [whn] at h)); skip)) | ((apply awpL_gf rfl rfl rfl); (case hT => ((try simp (disch := omega) only [wtn, ba_drop, spl_ba, List.append_eq, List.foldl_cons, List.foldl_nil, List.map_cons, List.map_nil, Nat.reduceAdd, Nat.reduceMul, Nat.reduceSub, ↓reduceIte, Nat.reduceEqDiff]); rfl))) | ((apply awpL_evl2 rfl); (case h => ((try (intro (hp : (_ : Bool) = true); ((try simp only [Bool.and_eq_true, Bool.not_eq_true', Bool.not_eq_true] at hp); (try simp only [hp, wte]); (try simp only [whn] at hp)))); (first | (apply Evl_k 0 rfl; (exact Evl_mv _ rfl)) | (apply Evl_k 1 rfl; (exact Evl_pickf _ _ _ rfl rfl)) | (apply Evl_x; (case hs => (intro _ _ h; cases h)); (case hx => rfl); (case hrun => (intro w; simp [wtb, AV.val, go_sem]; (try go_bits); rfl)))))); (case hT => ((try simp (disch := omega) only [wtn, ba_drop, spl_ba, List.append_eq, List.foldl_cons, List.foldl_nil, List.map_cons, List.map_nil, Nat.reduceAdd, Nat.reduceMul, Nat.reduceSub, ↓reduceIte, Nat.reduceEqDiff]); rfl))) | fail))
        have hrd : rdy l d k = false := by
          rw [mks_get] at hp
          unfold rdy
          rw [hp]; rfl
        exact ⟨k + 1, by omega, ⟨by omega, fun j hj => by
          by_cases e : j = k
          · subst e; exact hrd
          · exact h2'.out j (by omega)⟩, (Weak.mk' [] _ (List.Perm.refl _) (VwHs.refl _ _) (by (repeat' (first | exact VwL.nil | (refine VwL.cons ?_ ?_) | exact Vw.refl _ | exact Vw.top _ | fail))))⟩
    · have e : d = ord l := hs'.out.end_ fun j hj => h2'.out j (by omega)
      subst e
      refine awp_drawnA mixed ?_
      (apply awpA_take 0 rfl rfl (by kernel_rfl) (by intro c T H hp; simp [thenA, inBlockA, jumpA, endA] at hp); (case h => (first | exact WInd_mv _ rfl | fail)); (apply awpA_cong; (case hT => ((try simp only [wtn, List.append_eq, List.foldl_cons, List.foldl_nil, List.map_cons, List.map_nil, Nat.reduceAdd, Nat.reduceMul, Nat.reduceSub, ↓reduceIte, Nat.reduceEqDiff]); rfl)); (case hH => rfl))); (apply awpA_take 2 rfl rfl (by kernel_rfl) (by intro c T H hp; simp [thenA, inBlockA, jumpA, endA] at hp); (case h => (first | exact WInd_as _ rfl | fail)); (apply awpA_cong; (case hT => ((try simp only [wtn, List.append_eq, List.foldl_cons, List.foldl_nil, List.map_cons, List.map_nil, Nat.reduceAdd, Nat.reduceMul, Nat.reduceSub, ↓reduceIte, Nat.reduceEqDiff]); rfl)); (case hH => rfl)))
      (refine awpA_1 1 (by decide +kernel) rfl rfl ?_; (first | (apply Stp_evl; (case h => ((apply Evl_k 6 rfl; (exact Evl_load _ _ _ _ _ _ _ _ rfl rfl FBox.out HAgg.out (by first | exact Nat.le_of_ble_eq_true rfl | fail) (by first | exact Nat.le_of_ble_eq_true rfl | fail))))); (apply awpA_cong; (case hT => ((try simp only [wtn, List.append_eq, List.foldl_cons, List.foldl_nil, List.map_cons, List.map_nil, Nat.reduceAdd, Nat.reduceMul, Nat.reduceSub, ↓reduceIte, Nat.reduceEqDiff]); rfl)); (case hH => rfl))) | fail))
      (apply awpA_take 3 rfl rfl (by kernel_rfl) (by intro c T H hp; simp [thenA, inBlockA, jumpA, endA] at hp); (case h => (first | exact WInd_as _ rfl | fail)); (apply awpA_cong; (case hT => ((try simp only [wtn, List.append_eq, List.foldl_cons, List.foldl_nil, List.map_cons, List.map_nil, Nat.reduceAdd, Nat.reduceMul, Nat.reduceSub, ↓reduceIte, Nat.reduceEqDiff]); rfl)); (case hH => rfl)))
      refine awpA_done (by decide +kernel) ?_
      (repeat' (first | with_reducible (first | refine awp_ret ?_ | refine thenA_normal ?_ | refine jumpA_ret ?_) | fail))
      refine endA_ret _ _ (Res2 rfl (RV.tmp _) (RV.tmp _) (Weak.mk' [] _ (List.Perm.refl _) (VwHs.refl _ _) (VwL.cons (Vw.refl _) (VwL.cons (Vw.refl _) VwL.nil)))) ⟨ad, cap, bx, c, rfl, rfl⟩
end Go.Proofs.Ytdcjhndcklofoaa
