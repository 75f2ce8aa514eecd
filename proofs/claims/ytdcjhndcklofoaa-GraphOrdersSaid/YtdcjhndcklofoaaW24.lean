import Derived.Test.YtdcjhndcklofoaaW23
/- The graph: Cycle. -/
namespace Go.Proofs.Ytdcjhndcklofoaa
open Go.RowKit
set_option linter.unusedSimpArgs false
set_option linter.unusedVariables false
theorem marks2_spec (l : List JA) (d : List Int) (b c : Nat) (j : Int) (hj : 0 ≤ j ∧ j < (l.length : Int)) : Spec Try.prog 21 (brow b c l.length l.length (mks l d)) [.x (.int .i64 j), .x (.pointer (some ⟨b, 0, none⟩))] (fun r H' => r = .x (.bool (!d.contains j)) ∧ H' = brow b c l.length l.length (mks l d)) := by
  obtain ⟨k, rfl⟩ : ∃ k : Nat, j = k := ⟨j.toNat, by omega⟩
  have hk : k < (mks l d).length := by rw [mks_len]; omega
  have := cycle1_spec b c l.length l.length (mks l d) k (mks_len l d).symm hk
  rwa [mks_get] at this
theorem ia_dropl (l : List Int) (k : Nat) : (ia l).drop k = ia (l.drop k) := by simp [ia, List.map_drop]
theorem ia_takel (l : List Int) (k : Nat) : (ia l).take k = ia (l.take k) := by simp [ia, List.map_take]
theorem take_drop_len {α : Type} (l : List α) (k : Nat) : (l.drop k).take (l.length - k) = l.drop k := List.take_of_length_le (by simp)
theorem nxt_idx {l : List JA} {a b : Int} (h : nxt l a = some b) : ∃ k, ∃ hk : k < (nds l a).length, (nds l a).findIdx? (fun k => !(ord l).contains k) = some k ∧ (nds l a)[k] = b := by
  unfold nxt at h
  cases hi : (nds l a).findIdx? (fun k => !(ord l).contains k) with
  | none =>
    rw [List.findIdx?_eq_none_iff] at hi
    have := List.find?_some h
    rw [hi b (List.mem_of_find?_eq_some h)] at this
    cases this
  | some k =>
    obtain ⟨h1, h2, h3⟩ := List.findIdx?_eq_some_iff_getElem.1 hi
    refine ⟨k, h1, rfl, ?_⟩
    have : (nds l a).find? (fun k => !(ord l).contains k) = some (nds l a)[k] := by
      rw [List.find?_eq_some_iff_getElem]
      exact ⟨h2, k, h1, rfl, fun j hj => by simpa using h3 j hj⟩
    rw [this] at h; cases h; rfl
set_option maxRecDepth 100000 in
set_option maxHeartbeats 8000000 in
theorem cycle_spec (l : List JA) (hl : l.length ≤ 1000000) (hm : ∀ j ∈ l, j.needs.length ≤ 8796093022208) : Spec Try.prog 11 [] [.sq l.length (ja l)] (RowIs (cyc l)) := by
  have hIb := ixb_spec (mks l (ord l)) false (by simpa using hl)
  rw [mks_len, show List.findIdx? (fun x => x == false) (mks l (ord l)) = at0 l from rfl] at hIb
  refine Spec_of Try.func11 rfl ?_
  simp only [Try.ntmps11, List.length_cons, List.length_nil, List.replicate_succ, List.replicate_zero, List.cons_append, List.nil_append, Nat.reduceAdd, Nat.reduceSub]
  refine awp_nilrow 3 1 ?_
  cases h0 : at0 l with
  | none =>
    rw [h0] at hIb
    simp only [fiv] at hIb
    have hc : cyc l = [] := by unfold cyc; rw [h0]
    (repeat' (first | with_reducible (first | refine awp_seq ?_ | refine awp_region ?_ | refine awp_ret ?_ | refine awpL_nil ?_ | refine thenA_normal ?_ | refine thenA_ret ?_) | (refine awp_cond _ rfl (fun h => ?_) (fun h => ?_) <;> first | (exact absurd h (by decide)) | ((try (simp only [whn] at h)); skip)) | ((apply awpL_evl2 rfl); (case h => ((try (intro (hp : (_ : Bool) = true); ((try simp only [Bool.and_eq_true, Bool.not_eq_true', Bool.not_eq_true] at hp); (try simp only [hp, wte]); (try simp only [whn] at hp)))); (first | (apply Evl_k 0 rfl; (first | exact Evl_mv _ rfl | exact Evl_as _ rfl)) | (apply Evl_k 2 rfl; (exact Evl_extract _ _ _ _ rfl rfl rfl)) | (apply Evl_k 6 rfl; (exact Evl_load _ _ _ _ _ _ _ _ rfl rfl FBox.out HAgg.out (by first | exact Nat.le_of_ble_eq_true rfl | fail) (by first | exact Nat.le_of_ble_eq_true rfl | fail))) | (apply Evl_k 11 rfl; (first | exact Evl_call 18 Try.f18 _ _ rfl rfl Try.func18 (by decide) rfl (VwL.refl _ _) (all_spec l hl hm) | exact Evl_callL 22 Try.f22 _ _ rfl rfl Try.func22 (by decide) rfl (by (repeat' (first | exact VwL.nil | (refine VwL.cons ?_ ?_) | exact Vw.refl _ | exact Vw.row (List.Mem.tail _ (List.Mem.tail _ (List.Mem.head _))) (VwL.refl _ _) | fail)); done) (hIb))) | (apply Evl_x; (case hs => (intro _ _ h; cases h)); (case hx => rfl); (case hrun => (intro w; simp [wtb, AV.val, go_sem]; (try go_bits); rfl)))))); (case hT => ((try simp only [wtn, List.append_eq, List.foldl_cons, List.foldl_nil, List.map_cons, List.map_nil, Nat.reduceAdd, Nat.reduceMul, Nat.reduceSub, ↓reduceIte, Nat.reduceEqDiff]); rfl))) | (refine awpL_cons rfl ?_; ((first | (refine Stp_k 11 rfl ?_; ((refine Stp_call 17 Try.f17 ([]) _ _ _ rfl rfl Try.func17 (by decide) rfl (List.Perm.refl _) (VwL.refl _ _) (order_spec l hl) ?_; rintro _ _ ⟨ad, cap, b, c, rfl, rfl⟩))) | (refine Stp_k 14 rfl ?_; ((refine Stp_alloc _ _ rfl HZero.out rfl (fun b => ?_)))) | (refine Stp_k 16 rfl ?_; ((refine Stp_store _ _ _ _ _ _ _ rfl rfl FBox.out HSize.out (by first | rfl | fail) (by first | exact Nat.le_of_ble_eq_true rfl | fail) ?_)))); apply awpL_cong; (case hT => ((try simp only [wtn, List.append_eq, List.foldl_cons, List.foldl_nil, List.map_cons, List.map_nil, Nat.reduceAdd, Nat.reduceMul, Nat.reduceSub, ↓reduceIte, Nat.reduceEqDiff]); rfl)); (case hH => ((try simp only [wtn, List.append_eq, List.foldl_cons, List.foldl_nil, List.map_cons, List.map_nil, Nat.reduceAdd, Nat.reduceMul, Nat.reduceSub, ↓reduceIte, Nat.reduceEqDiff]); rfl)))) | fail))
    refine endA_ret _ _ (Res1 rfl (RV.tmp _) (Weak.mk' [_, _, _, _] [_] (List.Perm.refl _) (VwHs.refl _ _) (by first | exact VwL.refl _ _ | fail))) ?_
    rw [hc]
    exact ⟨none, 0, rfl, rfl⟩
  | some a0 =>
    rw [h0] at hIb
    simp only [fiv] at hIb
    have hw0 := Way.first h0
    have ha0 := (at0_some h0).1
    (repeat' (first | with_reducible (first | refine awp_seq ?_ | refine awp_region ?_ | refine awp_block ?_ | refine awp_skip ?_ | refine awpL_nil ?_ | refine thenA_normal ?_) | (refine awp_cond _ rfl (fun h => ?_) (fun h => ?_) <;> ((try (simp only [whn] at h)); first | (exfalso; omega; done) | skip)) | ((apply awpL_evl2 rfl); (case h => ((try (intro (hp : (_ : Bool) = true); ((try simp only [Bool.and_eq_true, Bool.not_eq_true', Bool.not_eq_true] at hp); (try simp only [hp, wte]); (try simp only [whn] at hp)))); (first | (apply Evl_k 0 rfl; (first | exact Evl_mv _ rfl | exact Evl_as _ rfl)) | (apply Evl_k 2 rfl; (exact Evl_extract _ _ _ _ rfl rfl rfl)) | (apply Evl_k 6 rfl; (exact Evl_load _ _ _ _ _ _ _ _ rfl rfl FBox.out HAgg.out (by first | exact Nat.le_of_ble_eq_true rfl | fail) (by first | exact Nat.le_of_ble_eq_true rfl | fail))) | (apply Evl_k 11 rfl; (first | exact Evl_call 18 Try.f18 _ _ rfl rfl Try.func18 (by decide) rfl (VwL.refl _ _) (all_spec l hl hm) | exact Evl_callL 22 Try.f22 _ _ rfl rfl Try.func22 (by decide) rfl (by (repeat' (first | exact VwL.nil | (refine VwL.cons ?_ ?_) | exact Vw.refl _ | exact Vw.row (List.Mem.tail _ (List.Mem.tail _ (List.Mem.head _))) (VwL.refl _ _) | fail)); done) (hIb))) | (apply Evl_x; (case hs => (intro _ _ h; cases h)); (case hx => rfl); (case hrun => (intro w; simp [wtb, AV.val, go_sem]; (try go_bits); rfl)))))); (case hT => ((try simp only [wtn, List.append_eq, List.foldl_cons, List.foldl_nil, List.map_cons, List.map_nil, Nat.reduceAdd, Nat.reduceMul, Nat.reduceSub, ↓reduceIte, Nat.reduceEqDiff]); rfl))) | (refine awpL_cons rfl ?_; ((first | (refine Stp_k 11 rfl ?_; ((refine Stp_call 17 Try.f17 ([]) _ _ _ rfl rfl Try.func17 (by decide) rfl (List.Perm.refl _) (VwL.refl _ _) (order_spec l hl) ?_; rintro _ _ ⟨ad, cap, b, c, rfl, rfl⟩))) | (refine Stp_k 14 rfl ?_; ((refine Stp_alloc _ _ rfl HZero.out rfl (fun b => ?_)))) | (refine Stp_k 16 rfl ?_; ((refine Stp_store _ _ _ _ _ _ _ rfl rfl FBox.out HSize.out (by first | rfl | fail) (by first | exact Nat.le_of_ble_eq_true rfl | fail) ?_)))); apply awpL_cong; (case hT => ((try simp only [wtn, List.append_eq, List.foldl_cons, List.foldl_nil, List.map_cons, List.map_nil, Nat.reduceAdd, Nat.reduceMul, Nat.reduceSub, ↓reduceIte, Nat.reduceEqDiff]); rfl)); (case hH => ((try simp only [wtn, List.append_eq, List.foldl_cons, List.foldl_nil, List.map_cons, List.map_nil, Nat.reduceAdd, Nat.reduceMul, Nat.reduceSub, ↓reduceIte, Nat.reduceEqDiff]); rfl)))) | fail))
    refine awp_loopS (S := List Int × Int × Option Addr × Nat) (fun s => frm 51 [(3, .sq l.length (na l)), (5, .x (.pointer (some ⟨b, 0, none⟩))), (6, .x (.func (.func 21) #[] #[.pointer (some ⟨b, 0, none⟩)])), (7, .x (.int .i64 s.2.1)), (8, .x (.slice s.2.2.1 s.1.length s.2.2.2))])
      (fun s => brow b c l.length l.length (mks l (ord l)) ++ [.row s.2.2.1 s.1.length s.2.2.2 3 1 (ia s.1)]) (fun s => Way l s.1 s.2.1) (fun s => l.length + 1 - s.1.length) ([], (a0 : Int), none, 0) ?a hw0 fun s hs => ?_
    case a =>
      refine Weak.mk' [_, _] [_, _, _] ((List.perm_middle (l₁ := [_])).trans (.cons _ (List.perm_middle (l₁ := [_, _])))) (VwHs.refl _ _) ?_
      (repeat' (first | exact VwL.nil | (refine VwL.cons ?_ ?_) | exact Vw.refl _ | exact Vw.top _ | fail))
    clear hIb hw0 h
    obtain ⟨d, a, ad2, cap2⟩ := s
    simp only at hs
    have hle := hs.le
    have halt := hs.alt
    obtain ⟨a, rfl⟩ : ∃ k : Nat, a = k := ⟨a.toNat, by omega⟩
    obtain ⟨nb, hnb, hnm, hnf⟩ := hs.nxt
    obtain ⟨k2, hk2, hk2i, hk2v⟩ := nxt_idx hnb
    have hal : a < l.length := by omega
    have hpI := ixi_spec d (a : Int) (by omega)
    have hcF := ifints_spec (nds l a) (brow b c l.length l.length (mks l (ord l))) 21 _ #[.pointer (some ⟨b, 0, none⟩)] (fun j => !(ord l).contains j) (by have := nds_le l a; omega) Try.func21 (by decide) rfl (fun j hj => marks2_spec l (ord l) b c j (nds_lt l a j hj))
    rw [hk2i] at hcF
    simp only [fiv] at hcF
    have hs' := Lib.hid hs
    have hnb' := Lib.hid hnb
    have hk2v' := Lib.hid hk2v
    clear hs hnb hnf hk2i hk2v
    simp only [frm, List.replicate_succ, List.replicate_zero, List.foldl_cons, List.foldl_nil, List.set_cons_zero, List.set_cons_succ, brow, List.cons_append, List.nil_append]
    cases hp : d.findIdx? (· == (a : Int)) with
    | some k =>
      rw [hp] at hpI
      simp only [fiv] at hpI
      have hpe := hs'.out.end_ hp
      have hkl := (List.findIdx?_eq_some_iff_getElem.1 hp).1
      have hpe' := Lib.hid hpe
      clear hpe hp
      (repeat' (first | with_reducible (first | refine awp_seq ?_ | refine awp_region ?_ | refine awp_block ?_ | refine awpL_nil ?_ | refine thenA_normal ?_) | (refine awp_cond _ rfl (fun h => ?_) (fun h => ?_) <;> first | (exact absurd h (by decide)) | ((try (simp only [whn] at h)); skip)) | ((apply awpL_evl2 rfl); (case h => ((try (intro (hp : (_ : Bool) = true); ((try simp only [Bool.and_eq_true, Bool.not_eq_true', Bool.not_eq_true] at hp); (try simp only [hp, wte]); (try simp only [whn] at hp)))); (first | (apply Evl_k 0 rfl; (first | exact Evl_mv _ rfl | exact Evl_as _ rfl)) | (apply Evl_k 11 rfl; (exact Evl_callL 23 Try.f23 _ _ rfl rfl Try.func23 (by decide) rfl (by (repeat' (first | exact VwL.nil | (refine VwL.cons ?_ ?_) | exact Vw.refl _ | exact Vw.row (List.Mem.tail _ (List.Mem.tail _ (List.Mem.head _))) (VwL.refl _ _) | fail)); done) (hpI))) | (apply Evl_x; (case hs => (intro _ _ h; cases h)); (case hx => rfl); (case hrun => (intro w; simp [wtb, AV.val, go_sem]; (try go_bits); rfl)))))); (case hT => ((try simp only [wtn, List.append_eq, List.foldl_cons, List.foldl_nil, List.map_cons, List.map_nil, Nat.reduceAdd, Nat.reduceMul, Nat.reduceSub, ↓reduceIte, Nat.reduceEqDiff]); rfl))) | fail))
      have hcl : Spec Try.prog 24 [] [.sq (d.length - k) (ia (d.drop k))] (RowIs (cyc l)) := by
        have := clone_spec (d.drop k) (by simp; omega) (by simp; omega)
        rw [List.length_drop] at this
        rw [hpe'.out] at this ⊢
        exact this
      apply awpL_weak; (case h => (apply Weak.mk' [_] [_, _] (List.perm_middle (l₁ := [_, _])) (VwHs.refl _ _); (repeat' (first | exact VwL.nil | apply VwL.cons | exact Vw.row (List.Mem.head _) (VwL.refl _ _) | exact Vw.refl _ | fail))))
      (repeat' (first | with_reducible (first | refine awp_ret ?_ | refine awpL_nil ?_ | refine thenA_normal ?_ | refine thenA_ret ?_ | refine inBlockA_ret ?_) | ((apply awpL_evl2 rfl); (case h => ((try (intro (hp : (_ : Bool) = true); ((try simp only [Bool.and_eq_true, Bool.not_eq_true', Bool.not_eq_true] at hp); (try simp only [hp, wte]); (try simp only [whn] at hp)))); (first | (apply Evl_k 0 rfl; (exact Evl_as _ rfl)) | (apply Evl_k 9 rfl; (exact Evl_slice_sq _ _ _ _ _ _ _ _ _ _ rfl rfl HEl.out (by first | exact .inr ⟨_, _, rfl, rfl⟩ | fail) (by first | exact .inl ⟨rfl, rfl⟩ | fail) (by omega) (by omega)))))); (case hT => ((try simp (disch := omega) only [wtn, ia_dropl, ia_takel, take_drop_len, List.append_eq, List.foldl_cons, List.foldl_nil, List.map_cons, List.map_nil, Nat.reduceAdd, Nat.reduceMul, Nat.reduceSub, ↓reduceIte, Nat.reduceEqDiff]); rfl))) | (refine awpL_cons rfl ?_; (((refine Stp_k 11 rfl ?_; ((refine Stp_call 24 Try.f24 ([]) _ _ _ rfl rfl Try.func24 (by decide) rfl (List.Perm.refl _) (VwL.refl _ _) (hcl) ?_; rintro _ _ ⟨ad3, cap3, rfl, rfl⟩)))); apply awpL_cong; (case hT => ((try simp (disch := omega) only [wtn, ia_dropl, ia_takel, take_drop_len, List.append_eq, List.foldl_cons, List.foldl_nil, List.map_cons, List.map_nil, Nat.reduceAdd, Nat.reduceMul, Nat.reduceSub, ↓reduceIte, Nat.reduceEqDiff]); rfl)); (case hH => ((try simp (disch := omega) only [wtn, ia_dropl, ia_takel, take_drop_len, List.append_eq, List.foldl_cons, List.foldl_nil, List.map_cons, List.map_nil, Nat.reduceAdd, Nat.reduceMul, Nat.reduceSub, ↓reduceIte, Nat.reduceEqDiff]); rfl)))) | fail))
      refine endA_ret _ _ (Res1 rfl (RV.tmp _) (Weak.mk' [_, _] [_] ((List.perm_middle (l₁ := [_, _]) (l₂ := [])).symm) (VwHs.refl _ _) (VwL.refl _ _))) ?_
      exact ⟨ad3, cap3, rfl, rfl⟩
    | none =>
      rw [hp] at hpI
      simp only [fiv] at hpI
      have hna : (a : Int) ∉ d := by
        rw [List.findIdx?_eq_none_iff] at hp
        intro hm; simpa using hp _ hm
      have hna' := Lib.hid hna
      clear hna hp
      (repeat' (first | with_reducible (first | refine awp_seq ?_ | refine awp_region ?_ | refine awp_block ?_ | refine awp_skip ?_ | refine awpL_nil ?_ | refine thenA_normal ?_) | (refine awp_cond _ rfl (fun h => ?_) (fun h => ?_) <;> first | (exact absurd h (by decide)) | ((try (simp only [whn] at h)); skip)) | ((apply awpL_evl2 rfl); (case h => ((try (intro (hp : (_ : Bool) = true); ((try simp only [Bool.and_eq_true, Bool.not_eq_true', Bool.not_eq_true] at hp); (try simp only [hp, wte]); (try simp only [whn] at hp)))); (first | (apply Evl_k 0 rfl; (first | exact Evl_mv _ rfl | exact Evl_as _ rfl)) | (apply Evl_k 6 rfl; (exact Evl_load_at _ _ _ _ _ rfl rfl HAgg.out (by first | exact Nat.le_of_ble_eq_true rfl | fail) (by first | exact Nat.le_of_ble_eq_true rfl | fail))) | (apply Evl_k 7 rfl; (exact Evl_index_sq _ _ _ _ _ _ _ _ _ _ rfl rfl rfl HEl.out rfl (by first | omega | fail) (by simp; first | omega | fail))) | (apply Evl_k 11 rfl; (exact Evl_callL 23 Try.f23 _ _ rfl rfl Try.func23 (by decide) rfl (by (repeat' (first | exact VwL.nil | (refine VwL.cons ?_ ?_) | exact Vw.refl _ | exact Vw.row (List.Mem.tail _ (List.Mem.tail _ (List.Mem.head _))) (VwL.refl _ _) | fail)); done) (hpI))) | (apply Evl_x; (case hs => (intro _ _ h; cases h)); (case hx => rfl); (case hrun => (intro w; simp [wtb, AV.val, go_sem]; (try go_bits); rfl)))))); (case hT => ((try simp (disch := assumption) only [wtn, na_drop, List.append_eq, List.foldl_cons, List.foldl_nil, List.map_cons, List.map_nil, Nat.reduceAdd, Nat.reduceMul, Nat.reduceSub, ↓reduceIte, Nat.reduceEqDiff]); rfl))) | (refine awpL_cons rfl ?_; ((first | (refine Stp_k 13 rfl ?_; ((refine Stp_append _ _ _ _ _ _ _ _ _ _ _ _ _ _ rfl rfl FRow.out (Src.row _ rfl FRow.out) HElem.out (by first | rfl | fail) (fits _ _ (by omega) (by decide)) (fun ad cap => ?_)))) | (refine Stp_k 17 rfl ?_; ((refine Stp_buildSlice _ _ _ _ _ _ _ _ rfl HElem.out (by first | rfl | fail) rfl (by decide) rfl (fun b => ?_))))); apply awpL_cong; (case hT => ((try simp (disch := omega) only [wtn, na_drop, List.append_eq, List.foldl_cons, List.foldl_nil, List.map_cons, List.map_nil, Nat.reduceAdd, Nat.reduceMul, Nat.reduceSub, ↓reduceIte, Nat.reduceEqDiff]); rfl)); (case hH => ((try simp (disch := omega) only [wtn, na_drop, List.append_eq, List.foldl_cons, List.foldl_nil, List.map_cons, List.map_nil, Nat.reduceAdd, Nat.reduceMul, Nat.reduceSub, ↓reduceIte, Nat.reduceEqDiff]); rfl)))) | fail))
      refine awpL_cons rfl ?_
      refine Stp_call 25 _ (brow _ c l.length l.length (mks l (ord l))) [_, _] _ _ rfl rfl Try.func25 (by decide) rfl ((List.perm_middle (l₁ := [_, _])).symm) (VwL.refl _ _) hcF ?_
      rintro _ _ ⟨rfl, rfl⟩
      (try simp only [wtn, List.append_eq, List.foldl_cons, List.foldl_nil, List.map_cons, List.map_nil, Nat.reduceAdd, Nat.reduceMul, Nat.reduceSub, ↓reduceIte, Nat.reduceEqDiff])
      (repeat' (first | with_reducible (first | refine awp_seq ?_ | refine awp_region ?_ | refine awp_skip ?_ | refine awpL_nil ?_ | refine thenA_normal ?_ | refine inBlockA_normal ?_) | (refine awp_cond _ rfl (fun h => ?_) (fun h => ?_) <;> ((try (simp only [whn] at h)); first | (exfalso; omega; done) | skip)) | ((apply awpL_evl2 rfl); (case h => ((try (intro (hp : (_ : Bool) = true); ((try simp only [Bool.and_eq_true, Bool.not_eq_true', Bool.not_eq_true] at hp); (try simp only [hp, wte]); (try simp only [whn] at hp)))); (first | (apply Evl_k 0 rfl; (first | exact Evl_mv _ rfl | exact Evl_as _ rfl)) | (apply Evl_k 6 rfl; (exact Evl_load_at _ _ _ _ _ rfl rfl HAgg.out (by first | exact Nat.le_of_ble_eq_true rfl | fail) (by first | exact Nat.le_of_ble_eq_true rfl | fail))) | (apply Evl_k 7 rfl; (exact Evl_index_sq _ _ _ _ _ _ _ _ _ _ rfl rfl rfl HEl.out rfl (by first | omega | fail) (by simp; first | omega | fail))) | (apply Evl_x; (case hs => (intro _ _ h; cases h)); (case hx => rfl); (case hrun => (intro w; simp [wtb, AV.val, go_sem]; (try go_bits); rfl)))))); (case hT => ((try simp (disch := assumption) only [wtn, na_drop, ia_drop, List.append_eq, List.foldl_cons, List.foldl_nil, List.map_cons, List.map_nil, Nat.reduceAdd, Nat.reduceMul, Nat.reduceSub, ↓reduceIte, Nat.reduceEqDiff]); rfl))) | fail))
      have hnx : nb = (nds l a)[k2] := hk2v'.out.symm
      refine ⟨(d ++ [(a : Int)], nb, ad, cap), by simp only [List.length_append, List.length_cons, List.length_nil]; omega, hs'.out.step hna'.out hnb'.out, ?_⟩
      simp only [ia_app, List.length_append, List.length_cons, List.length_nil, hnx]
      refine Weak.mk' [_] [_, _, _] (List.perm_middle (l₁ := [_, _])) (VwHs.refl _ _) ?_
      (repeat' (first | exact VwL.nil | (refine VwL.cons ?_ ?_) | exact Vw.refl _ | exact Vw.top _ | fail))
end Go.Proofs.Ytdcjhndcklofoaa
/- The graph: the reference's left and Cycle. -/
namespace Go.Proofs.Ytdcjhndcklofoaa
open Go.RowKit
set_option linter.unusedSimpArgs false
set_option linter.unusedVariables false
def lft (l d : List Int) : Int := match l.find? (fun x => !d.contains x) with | some x => x | none => -1
theorem lft_some {l d : List Int} {k : Nat} (hk : k < l.length) (hn : ∀ x ∈ l.take k, d.contains x = true) (h : d.contains l[k] = false) : lft l d = l[k] := by
  unfold lft
  have : l.find? (fun x => !d.contains x) = some l[k] := by
    rw [List.find?_eq_some_iff_getElem]
    refine ⟨by simp only [h, Bool.not_false], k, hk, rfl, fun j hj => ?_⟩
    have := hn l[j] (List.mem_take_iff_getElem.2 ⟨j, by omega, rfl⟩)
    simp only [this, Bool.not_true]
    decide
  rw [this]
theorem lft_none {l d : List Int} (hn : ∀ x ∈ l, d.contains x = true) : lft l d = -1 := by
  unfold lft
  have : l.find? (fun x => !d.contains x) = none := by
    rw [List.find?_eq_none]
    intro x hx
    simp only [hn x hx, Bool.not_true]
    decide
  rw [this]
set_option maxRecDepth 100000 in
set_option maxHeartbeats 8000000 in
theorem left_r (l d : List Int) (hl : l.length ≤ 1000000) (hd : d.length ≤ 1000000) : Spec Try.prog 26 [] [.sq l.length (ia l), .sq d.length (ia d)] (fun r H' => r = .x (.int .i64 (lft l d)) ∧ H' = []) := by
  refine Spec_of Try.func26 rfl ?_
  simp only [Try.ntmps26, List.length_cons, List.length_nil, List.replicate_succ, List.replicate_zero, List.cons_append, List.nil_append, Nat.reduceAdd, Nat.reduceSub]
  (repeat' (first | with_reducible (first | refine awp_seq ?_ | refine awp_region ?_ | refine awp_block ?_ | refine awpL_nil ?_ | refine thenA_normal ?_) | ((apply awpL_evl2 rfl); (case h => ((try (intro (hp : (_ : Bool) = true); ((try simp only [Bool.and_eq_true, Bool.not_eq_true', Bool.not_eq_true] at hp); (try simp only [hp, wte]); (try simp only [whn] at hp)))); ((apply Evl_k 0 rfl; (exact Evl_as _ rfl))))); (case hT => ((try simp only [wtn, List.append_eq, List.foldl_cons, List.foldl_nil, List.map_cons, List.map_nil, Nat.reduceAdd, Nat.reduceMul, Nat.reduceSub, ↓reduceIte, Nat.reduceEqDiff]); rfl))) | fail))
  refine awp_loopS (S := Nat) (fun k => frm 23 [(0, .sq l.length (ia l)), (1, .sq d.length (ia d)), (5, .x (.int .i64 k))]) (fun _ => []) (fun k => k ≤ l.length ∧ ∀ x ∈ l.take k, d.contains x = true) (fun k => l.length - k) 0 (Weak.mk' [] _ (List.Perm.refl _) (VwHs.refl _ _) (by (repeat' (first | exact VwL.nil | (refine VwL.cons ?_ ?_) | exact Vw.refl _ | exact Vw.top _ | fail)))) ⟨Nat.zero_le _, by simp⟩ fun k hk => ?_
  obtain ⟨h1, h2⟩ := hk
  have h2' := Lib.hid h2
  clear h2
  simp only [frm, List.replicate_succ, List.replicate_zero, List.foldl_cons, List.foldl_nil, List.set_cons_zero, List.set_cons_succ]
  (repeat' (first | with_reducible (first | refine awp_seq ?_ | refine awp_region ?_ | refine awp_block ?_ | refine awp_ret ?_ | refine awp_skip ?_ | refine awp_exit ?_ | refine awpL_nil ?_ | refine thenA_normal ?_ | refine thenA_exit ?_ | refine thenA_ret ?_ | refine inBlockA_eq ?_ | refine inBlockA_normal ?_ | refine inBlockA_ret ?_) | (refine awp_cond _ rfl (fun h => ?_) (fun h => ?_) <;> ((try (simp only [whn] at h)); skip)) | ((apply awpL_evl2 rfl); (case h => ((try (intro (hp : (_ : Bool) = true); ((try simp only [Bool.and_eq_true, Bool.not_eq_true', Bool.not_eq_true] at hp); (try simp only [hp, wte]); (try simp only [whn] at hp)))); (first | (apply Evl_k 0 rfl; (first | exact Evl_mv _ rfl | exact Evl_as _ rfl)) | (apply Evl_k 3 rfl; (exact Evl_len _ _ _ _ _ _ HEl.out rfl rfl)) | (apply Evl_k 6 rfl; (exact Evl_load_at _ _ _ _ _ rfl rfl HAgg.out (by first | exact Nat.le_of_ble_eq_true rfl | fail) (by first | exact Nat.le_of_ble_eq_true rfl | fail))) | (apply Evl_k 7 rfl; (exact Evl_index_sq _ _ _ _ _ _ _ _ _ _ rfl rfl rfl HEl.out rfl (by first | omega | fail) (by simp; first | omega | fail))) | (apply Evl_k 11 rfl; (exact Evl_call 19 Try.f19 _ _ rfl rfl Try.func19 (by decide) rfl (VwL.refl _ _) (has_spec d _ hd))) | (apply Evl_x; (case hs => (intro _ _ h; cases h)); (case hx => rfl); (case hrun => (intro w; simp [wtb, AV.val, go_sem]; (try go_bits); rfl)))))); (case hT => ((try simp (disch := assumption) only [wtn, ia_drop, List.append_eq, List.foldl_cons, List.foldl_nil, List.map_cons, List.map_nil, Nat.reduceAdd, Nat.reduceMul, Nat.reduceSub, ↓reduceIte, Nat.reduceEqDiff]); rfl))) | fail))
  · rename_i hkl
    refine endA_ret _ _ (Res1 rfl (RV.tmp _) (Weak.mk' [] _ (List.Perm.refl _) (VwHs.refl _ _) (VwL.refl _ _))) ?_
    refine ⟨?_, rfl⟩
    rw [lft_some hkl h2'.out (by simpa using h)]; rfl
  · rename_i hkl
    refine ⟨k + 1, by omega, ⟨by omega, ?_⟩, (Weak.mk' [] _ (List.Perm.refl _) (VwHs.refl _ _) (by (repeat' (first | exact VwL.nil | (refine VwL.cons ?_ ?_) | exact Vw.refl _ | exact Vw.top _ | fail))))⟩
    rw [take_snoc' l k hkl]
    intro x hx
    rcases List.mem_append.1 hx with hx | hx
    · exact h2'.out x hx
    · rw [List.mem_singleton] at hx; subst hx; simpa using h
  · refine endA_ret _ _ (Res1 rfl (RV.tmp _) (Weak.mk' [] _ (List.Perm.refl _) (VwHs.refl _ _) (VwL.refl _ _))) ?_
    refine ⟨?_, rfl⟩
    have e := h2'.out
    rw [List.take_of_length_le (by omega)] at e
    rw [lft_none e]; rfl
/-- The numbers below n. -/
def upto (n : Nat) : List Int := (List.range n).map fun k : Nat => (k : Int)
@[simp] theorem upto_len (n : Nat) : (upto n).length = n := by simp [upto]
theorem upto_succ (n : Nat) : upto (n + 1) = upto n ++ [(n : Int)] := by simp [upto, List.range_succ]
theorem upto_get (n k : Nat) (h : k < n) : (upto n)[k]'(by simpa using h) = (k : Int) := by simp [upto]
theorem lft_upto (l : List JA) : lft (upto l.length) (ord l) = (match at0 l with | some a => (a : Int) | none => -1) := by
  cases h : at0 l with
  | none =>
    refine lft_none fun x hx => ?_
    obtain ⟨k, hk, rfl⟩ := List.mem_map.1 hx
    simpa using at0_none h k (List.mem_range.1 hk)
  | some a =>
    unfold at0 at h
    obtain ⟨h1, h2, h3⟩ := List.findIdx?_eq_some_iff_getElem.1 h
    rw [mks_len] at h1
    have := lft_some (l := upto l.length) (d := ord l) (k := a) (by simpa using h1) (fun x hx => by
      obtain ⟨j, hj, rfl⟩ := List.mem_take_iff_getElem.1 hx
      have hja : j < a := by omega
      have := h3 j hja
      rw [mks_get] at this
      rw [upto_get _ _ (by omega)]
      simpa using this) (by
      rw [mks_get] at h2
      rw [upto_get _ _ h1]
      simpa using h2)
    rw [this, upto_get _ _ h1]
theorem lft_nxt {l : List JA} {a b : Int} (h : nxt l a = some b) : lft (nds l a) (ord l) = b := by
  unfold lft
  have : (nds l a).find? (fun x => !(ord l).contains x) = some b := h
  rw [this]
end Go.Proofs.Ytdcjhndcklofoaa
