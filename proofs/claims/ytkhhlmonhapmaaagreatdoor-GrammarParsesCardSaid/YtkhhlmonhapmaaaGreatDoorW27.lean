import Derived.Test.YtkhhlmonhapmaaaGreatDoorW26
/- The mill: a text with changed bytes; that it ends, and how long it is. -/
set_option linter.unusedSimpArgs false
set_option linter.unusedVariables false
namespace Go.Proofs.YtkhhlmonhapmaaaGreatDoor
open Go.RowKit
theorem u8a_spl (l : List UInt8) (i : Nat) (c : UInt8) : spl (u8a l) i [.x (.int .u8 (c.toNat : Nat))] = u8a (l.take i ++ [c] ++ l.drop (i + 1)) := by simp [spl, u8a, u8s]
theorem u8a_getD (l : List UInt8) (j : Nat) (h : j < l.length) : ((u8a l).drop j).getD 0 .top = .x (.int .u8 ((l.getD j 0).toNat : Nat)) := by rw [u8a_drop l j h]; rfl
theorem Src.bytesOf {ρ : Operand → AV} {H : List Hp} {x : Operand} (q : Nat) {b n cap : Nat} (full : List UInt8) (hx : ρ x = .x (.slice (some ⟨b, 0, none⟩) n cap)) (hq : H[q]? = some (.box b (u8a full))) (h1 : n ≤ cap) (h2 : cap ≤ maxLen) (h3 : n ≤ full.length) : Src ρ H x (full.take n).length (u8a (full.take n)) := by
  rw [List.length_take, Nat.min_eq_left h3]
  exact Src.part q hx hq h1 h2 (by simp [u8a, u8s])
theorem Src.cut2 {ρ : Operand → AV} {H : List Hp} {x : Operand} (q : Nat) {b n cap l h : Nat} {cells news : List AV} (hx : ρ x = .x (.slice (if cap = l then some ⟨b, 0, none⟩ else some ⟨b, l, none⟩) (h - l) (cap - l))) (hq : H[q]? = some (.box b cells)) (h1 : l ≤ h) (h2 : h ≤ cap) (h3 : cap ≤ maxLen) (h4 : news = (cells.drop l).take (h - l)) : Src ρ H x (h - l) news :=
  Src.cut (n := n) (off := 0) q (by rw [Nat.zero_add, Nat.mul_one]; exact hx) hq h1 h2 h3 (by rw [Nat.zero_add]; exact h4)
theorem Evl_load_bx {P : Program} {o : Oper} {ρ : Operand → AV} {H : List Hp} (i : Nat) (t : TypeId) (x : Operand) (b j : Nat) (full : List UInt8) (ho : o.op = .load t x) (hx : ρ x = .x (.pointer (some ⟨b, j, none⟩))) (hi : H[i]? = some (.box b (u8a full))) (ht : aggT P t = some (false, 1)) (h : j < full.length) : Evl P o ρ H (.x (.int .u8 ((full.getD j 0).toNat : Nat))) := by
  have := Evl_load i t x b j (u8a full) false 1 ho hx hi ht (by rw [u8a_len]; omega) (by rw [u8a_len]; omega)
  rwa [show ldA false 1 ((u8a full).drop j) = .x (.int .u8 ((full.getD j 0).toNat : Nat)) from u8a_getD full j h] at this
theorem VwH.rowboxe {D : List Hp} {g n cap : Nat} {e : TypeId} {l l' : List AV} (h : l = l') : VwH D (.row (some ⟨g, 0, none⟩) n cap e 1 l) (.box g l') := h ▸ VwH.rowbox g n cap e l
theorem brc_sing (c : UInt8) : brc [c] ≤ 1 := List.count_le_length
theorem brc_sub {a b : List UInt8} (h : a.Sublist b) : brc a ≤ brc b := h.count_le _
theorem take_two (l : List UInt8) {i n : Nat} (h : i ≤ n) : l.take n = l.take i ++ (l.drop i).take (n - i) := by
  have := List.take_add (l := l) (i := i) (j := n - i)
  rwa [show i + (n - i) = n from by omega] at this
theorem brc_set (l : List UInt8) (i n : Nat) (c : UInt8) (hi : i < n) (hn : n ≤ l.length) : brc ((l.take i ++ [c] ++ l.drop (i + 1)).take n) ≤ brc (l.take n) + 1 := by
  have e1 : (l.take i ++ [c] ++ l.drop (i + 1)).take n = l.take i ++ [c] ++ (l.drop (i + 1)).take (n - (i + 1)) := by
    rw [List.take_append, List.take_of_length_le (by simp; omega)]
    congr 2
    simp; omega
  have h1 := brc_sub (show (l.take i ++ (l.drop (i + 1)).take (n - (i + 1))).Sublist (l.take n) by
    rw [take_two l (Nat.le_of_lt hi)]
    refine List.Sublist.append (List.Sublist.refl _) ?_
    rw [take_two (l.drop i) (show 1 ≤ n - i by omega), List.drop_drop]
    have : n - i - 1 = n - (i + 1) := by omega
    rw [this]
    exact List.sublist_append_right _ _)
  have h2 := brc_sing c
  rw [e1]
  simp only [brc_app] at h1 ⊢
  omega
theorem brc_del (l : List UInt8) (i n : Nat) (hi : i < n) : brc ((l.take i ++ (l.drop (i + 1)).take (n - (i + 1))).take (i + (n - (i + 1)))) ≤ brc (l.take n) := by
  refine brc_sub ((List.take_sublist _ _).trans ?_)
  rw [take_two l (Nat.le_of_lt hi)]
  refine List.Sublist.append (List.Sublist.refl _) ?_
  rw [take_two (l.drop i) (show 1 ≤ n - i by omega), List.drop_drop]
  have : n - i - 1 = n - (i + 1) := by omega
  rw [this]
  exact List.sublist_append_right _ _
theorem brc_dup (l : List UInt8) (i n : Nat) (c : UInt8) (hi : i ≤ n) : brc ((l.take i ++ [c] ++ (l.drop i).take (n - i)).take (i + 1 + (n - i))) ≤ brc (l.take n) + 1 := by
  have h1 := brc_sub (List.take_sublist (i + 1 + (n - i)) (l.take i ++ [c] ++ (l.drop i).take (n - i)))
  have h2 := brc_sing c
  rw [take_two l hi]
  simp only [brc_app] at h1 ⊢
  omega
theorem brc_cut (l : List UInt8) {i n : Nat} (hi : i ≤ n) : brc (l.take i) ≤ brc (l.take n) := by
  rw [take_two l hi, brc_app]; omega
attribute [local simp] u8a_len
set_option maxRecDepth 100000 in
set_option maxHeartbeats 8000000 in
theorem spoil_x (bd : Nat) (l : List Int) (k : Nat) (s : List UInt8) (hd : DK l) (hk : k ≤ l.length) (hs : s.length ≤ 4000) : Spec Tryz.prog 12 [.box bd [.sq l.length (ia l), .x (.int .i64 k)]] [.x (.pointer (some ⟨bd, 0, none⟩)), .x (.string (bs s))] (fun r H' => ∃ (s' : List UInt8) (k' : Nat), r = .x (.string (bs s')) ∧ H' = [.box bd [.sq l.length (ia l), .x (.int .i64 k')]] ∧ k' ≤ l.length ∧ s'.length ≤ s.length + 2 ∧ brc s' ≤ brc s + 2) := by
  refine Spec_of Tryz.func12 rfl ?_
  simp only [Tryz.ntmps12, List.length_cons, List.length_nil, List.replicate_succ, List.replicate_zero, List.cons_append, List.nil_append, Nat.reduceAdd, Nat.reduceSub]
  (repeat' (first | with_reducible (first | refine awp_seq ?_ | refine awp_region ?_ | refine awp_block ?_ | refine awpL_nil ?_ | refine thenA_normal ?_) | ((apply awpL_evl2 rfl); (case h => (((apply Evl_k 0 rfl; (first | exact Evl_mv _ rfl | exact Evl_as _ rfl))))); (case hT => ((try simp only [wtn]); rfl))) | (refine awpL_cons rfl ?_; ((first | (refine Stp_k 11 rfl ?_; ((refine Stp_call 19 Tryz.f19 [_] _ _ _ rfl rfl Tryz.func19 (by decide) rfl (List.perm_middle (l₁ := [_])) (VwL.refl _ _) (next_w _ l k 3 hd hk (by omega) (by omega)) ?_; rintro _ _ ⟨v1, k2, rfl, rfl, hv1, hk2⟩))) | (refine Stp_k 12 rfl ?_; ((refine Stp_bytes _ _ 5 _ _ rfl (by kernel_rfl) (by kernel_rfl) (by kernel_rfl) (by kernel_rfl) rfl (by omega) (fun b cap hc1 hc2 => ?_))))); apply awpL_cong; (case hT => ((try simp only [wtn]); rfl)); (case hH => ((try simp only [wtn, List.append_eq]); rfl)))) | fail))
  apply awp_loopS (S := Nat × Nat × List UInt8 × Nat × Nat × Option Nat) (fun q => frm 72 [(0, .x (.pointer (some ⟨bd, 0, none⟩))), (5, .x (.slice (q.2.2.2.2.2.map fun g => ⟨g, 0, none⟩) q.2.2.2.1 q.2.2.2.2.1)), (6, .x (.int .i64 q.1))]) (fun q => .box bd [.sq l.length (ia l), .x (.int .i64 q.2.1)] :: (match q.2.2.2.2.2 with | some g => [.box g (u8a q.2.2.1)] | none => []))
    (fun q => q.1 ≤ 2 ∧ q.2.1 ≤ l.length ∧ q.2.2.2.1 ≤ q.2.2.1.length ∧ q.2.2.2.1 + q.1 ≤ s.length + 2 ∧ q.2.2.2.1 ≤ q.2.2.2.2.1 ∧ q.2.2.2.2.1 ≤ maxLen ∧ (q.2.2.2.2.2 = none → q.2.2.2.1 = 0 ∧ q.2.2.2.2.1 = 0) ∧ brc (q.2.2.1.take q.2.2.2.1) + q.1 ≤ brc s + 2) (fun q => q.1) (v1, k2, s, s.length, cap, some b)
  case h0 => exact (Weak.mk' [] _ (List.Perm.refl _) (VwHs.refl _ _) (by (repeat' (first | exact VwL.nil | (refine VwL.cons ?_ ?_) | exact Vw.refl _ | exact Vw.top _ | fail))))
  case hi => exact ⟨by simp only; omega, hk2, Nat.le_refl _, by simp only; omega, hc1, hc2, (fun h => by cases h), by simp only [List.take_length]; omega⟩
  rintro ⟨m, kk, full, n, cap, ob⟩ ⟨g1, g2, g3, g4, g5, g6, g7, g8⟩
  simp only at g1 g2 g3 g4 g5 g6 g7 g8
  have g8' := Lib.hid g8
  clear g8
  cases ob with
  | none =>
    obtain ⟨rfl, rfl⟩ := g7 rfl
    simp only [Option.map_none]
    simp only [frm, List.replicate_succ, List.replicate_zero, List.foldl_cons, List.foldl_nil, List.set_cons_zero, List.set_cons_succ]
    (repeat' (first | with_reducible (first | refine awp_seq ?_ | refine awp_region ?_ | refine awp_ret ?_ | refine awp_exit ?_ | refine awpL_nil ?_ | refine thenA_normal ?_ | refine thenA_exit ?_ | refine inBlockA_eq ?_) | (refine awp_cond _ rfl (fun h => ?_) (fun h => ?_) <;> first | (exact absurd h (by decide)) | ((try (simp only [] at h)); skip)) | ((first | apply awpL_evl2 rfl | apply awpL_g2 _ _ rfl rfl rfl); (case h => ((try (intro (hp : (_ : Bool) = true); ((try simp only [hp]); (try simp only [whn] at hp)))); (first | (apply Evl_k 0 rfl; (first | exact Evl_mv _ rfl | exact Evl_as _ rfl)) | (apply Evl_k 1 rfl; (exact Evl_and _ _ _ _ _ rfl rfl rfl rfl)) | (apply Evl_x; (case hs => (intro _ _ h; cases h)); (case hx => rfl); (case hrun => (intro w; simp [wtb, AV.val, go_sem]; skip; rfl)))))); (case hT => ((try simp only [wtn]); rfl))) | fail))
    refine endA_ret _ _ (Res1 rfl (RV.tmp _) (Weak.mk' [] _ (List.Perm.refl _) (VwHs.refl _ _) (VwL.refl _ _))) ?_
    exact ⟨[], kk, rfl, rfl, g2, Nat.zero_le _, Nat.zero_le _⟩
  | some g =>
    clear g7
    simp only [Option.map_some]
    simp only [frm, List.replicate_succ, List.replicate_zero, List.foldl_cons, List.foldl_nil, List.set_cons_zero, List.set_cons_succ]
    (repeat' (first | with_reducible (first | refine awp_seq ?_ | refine awp_region ?_ | refine awp_block ?_ | refine awp_ret ?_ | refine awp_skip ?_ | refine awp_exit ?_ | refine awpL_nil ?_ | refine thenA_normal ?_ | refine thenA_exit ?_ | refine inBlockA_eq ?_ | refine inBlockA_normal ?_) | (refine awp_cond _ rfl (fun h => ?_) (fun h => ?_) <;> ((try (simp only [whn] at h)); skip)) | ((first | apply awpL_evl2 rfl | apply awpL_g2 _ _ rfl rfl rfl); (case h => ((try (intro (hp : (_ : Bool) = true); ((try simp only [hp]); (try simp only [whn] at hp)))); (first | (apply Evl_k 0 rfl; (first | exact Evl_mv _ rfl | exact Evl_as _ rfl)) | (apply Evl_k 1 rfl; (exact Evl_and _ _ _ _ _ rfl rfl rfl rfl)) | (apply Evl_k 7 rfl; (exact Evl_index_own _ _ _ _ _ _ _ _ _ _ _ _ rfl rfl rfl HEl.out rfl (by first | omega | fail))) | (apply Evl_k 8 rfl; (exact Evl_index_str _ _ _ _ _ _ _ rfl rfl rfl (by kernel_rfl) rfl (by omega))) | (apply Evl_k 9 rfl; (exact Evl_slice_own _ _ _ _ _ _ _ _ _ _ _ _ rfl rfl HEl.out (by first | exact .inl ⟨rfl, rfl⟩ | fail) (by first | exact .inr ⟨_, _, rfl, rfl⟩ | fail) (by omega) (by omega))) | (apply Evl_k 12 rfl; (exact Evl_string _ _ 5 _ (full.take n) rfl (by kernel_rfl) (by kernel_rfl) (by kernel_rfl) (Src.bytesOf 1 full rfl rfl g5 g6 g3))) | (apply Evl_x; (case hs => (intro _ _ h; cases h)); (case hx => rfl); (case hrun => (intro w; simp [wtb, AV.val, go_sem]; (try go_bits); rfl)))))); (case hT => ((try simp (disch := omega) only [wtn, ite_self, Nat.sub_zero, List.append_eq, List.foldl_cons, List.foldl_nil, List.map_cons, List.map_nil, Nat.reduceAdd, Nat.reduceMul, Nat.reduceSub, ↓reduceIte, Nat.reduceEqDiff]); rfl))) | (refine awpL_cons rfl ?_; ((first | (refine Stp_k 11 rfl ?_; (first | (refine Stp_call 19 Tryz.f19 [_] _ _ _ rfl rfl Tryz.func19 (by decide) rfl (List.Perm.refl _) (VwL.refl _ _) (next_w _ l _ 4 hd (by assumption) (by omega) (by omega)) ?_; rintro _ _ ⟨v4, k4, rfl, rfl, hv4, hk4⟩) | (refine Stp_call 19 Tryz.f19 [_] _ _ _ rfl rfl Tryz.func19 (by decide) rfl (List.Perm.refl _) (VwL.refl _ _) (next_w _ l _ 13 hd (by assumption) (by omega) (by omega)) ?_; rintro _ _ ⟨v13, k13, rfl, rfl, hv13, hk13⟩) | (refine Stp_call 19 Tryz.f19 [_] _ _ _ rfl rfl Tryz.func19 (by decide) rfl (List.Perm.refl _) (VwL.refl _ _) (next_w _ l _ n hd (by assumption) (by omega) (by omega)) ?_; rintro _ _ ⟨i, ki, rfl, rfl, hi, hki⟩))) | (refine Stp_k 16 rfl ?_; ((refine Stp_store _ _ _ _ _ _ _ rfl rfl FBox.out HSize.out (by first | rfl | fail) (by first | (simp [wlq]; omega) | fail) ?_)))); apply awpL_cong; (case hT => ((try simp (disch := omega) only [wtn, ite_self, Nat.sub_zero, List.append_eq, List.foldl_cons, List.foldl_nil, List.map_cons, List.map_nil, Nat.reduceAdd, Nat.reduceMul, Nat.reduceSub, ↓reduceIte, Nat.reduceEqDiff]); rfl)); (case hH => ((try simp (disch := omega) only [wtn, ite_self, Nat.sub_zero, List.append_eq, List.foldl_cons, List.foldl_nil, List.map_cons, List.map_nil, Nat.reduceAdd, Nat.reduceMul, Nat.reduceSub, ↓reduceIte, Nat.reduceEqDiff]); rfl)))) | fail))
    · have e : spl (u8a full) i [.x (.int .u8 (([123, 125, 44, 61, 47, 34, 92, 35, 97, 48, 32, 10, 45] : List UInt8).getD v13 0).toNat)] = u8a (full.take i ++ [([123, 125, 44, 61, 47, 34, 92, 35, 97, 48, 32, 10, 45] : List UInt8).getD v13 0] ++ full.drop (i + 1)) := u8a_spl full i _
      refine ⟨(m - 1, k13, full.take i ++ [([123, 125, 44, 61, 47, 34, 92, 35, 97, 48, 32, 10, 45] : List UInt8).getD v13 0] ++ full.drop (i + 1), n, cap, some g), by simp only; omega, ⟨by simp only; omega, hk13, by simp; omega, by simp only; omega, g5, g6, (fun h => by cases h), by simp only; have g8 := g8'.out; have := brc_set full i n (([123, 125, 44, 61, 47, 34, 92, 35, 97, 48, 32, 10, 45] : List UInt8).getD v13 0) hi g3; omega⟩, ?_⟩
      rw [e]
      simp only [Option.map_some]
      exact Weak.mk' [] [.box bd _, .box g _] (List.Perm.refl _) (VwHs.refl _ _) (by (repeat' (first | exact VwL.nil | (refine VwL.cons ?_ ?_) | exact Vw.refl _ | exact Vw.top _ | (refine Vw.eq ?_; (congr 3; omega)) | fail)))
    · refine awp_mix (B := []) (R := [.box bd _, .box g _]) mixed [1, 2, 3, 5, 6, 7, 8, 0, 4, 9] [0, 4, 9] [10] none [] 1 (List.Perm.refl _) (by decide +kernel) rfl (fun i o h => by cases h) (by decide) ?_
      (repeat' (first | (apply dm_quiet rfl rfl; (case h => (intro H1; (try simp only [List.nil_append]); (first | (apply Evl_k 0 rfl; (exact Evl_mv _ rfl)) | (apply Evl_k 9 rfl; (exact Evl_slice_own _ _ _ _ _ _ _ _ _ _ _ _ rfl rfl HEl.out (by first | exact .inl ⟨rfl, rfl⟩ | exact .inr ⟨_, _, rfl, rfl⟩ | fail) (by first | exact .inl ⟨rfl, rfl⟩ | exact .inr ⟨_, _, rfl, rfl⟩ | fail) (by omega) (by omega))) | (apply Evl_x; (case hs => (intro _ _ h; cases h)); (case hx => rfl); (case hrun => (intro w; simp [wtb, AV.val, go_sem]; (try go_bits); rfl)))))); (case hT => ((try simp (disch := omega) only [wtn, ite_self, Nat.sub_zero, nat_up, List.append_eq, List.foldl_cons, List.foldl_nil, List.map_cons, List.map_nil, Nat.reduceAdd, Nat.reduceMul, Nat.reduceSub, ↓reduceIte, Nat.reduceEqDiff]); rfl))) | (apply dm_loud rfl rfl; (first | (refine Stp_k 13 rfl ?_; (first | (refine Stp_append _ _ _ _ _ _ _ _ _ _ _ _ _ _ rfl rfl FRow.out (Src.part 2 rfl rfl (by omega) g6 rfl) HElem.out (by first | (simp; omega) | fail) (fits _ _ (by first | omega | fail) (by decide)) (fun ad cap => ?_)) | (refine Stp_append _ _ _ _ _ _ _ _ _ _ _ _ _ _ rfl rfl FRow.out (Src.cut2 (n := n) 2 rfl rfl (by omega) g5 g6 rfl) HElem.out (by first | (simp; omega) | fail) (fits _ _ (by first | omega | fail) (by decide)) (fun ad cap => ?_)))) | (refine Stp_k 17 rfl ?_; ((refine Stp_buildSlice _ _ _ _ _ _ _ _ rfl HElem.out (by first | rfl | fail) rfl (by decide) rfl (fun b => ?_))))); refine ⟨_, rfl, ?_⟩; apply dm_cong; (case hT => ((try simp (disch := omega) only [wtn, ite_self, Nat.sub_zero, nat_up, List.append_eq, List.foldl_cons, List.foldl_nil, List.map_cons, List.map_nil, Nat.reduceAdd, Nat.reduceMul, Nat.reduceSub, ↓reduceIte, Nat.reduceEqDiff]); rfl)); (case hH => ((try simp (disch := omega) only [wtn, ite_self, Nat.sub_zero, nat_up, List.append_eq, List.foldl_cons, List.foldl_nil, List.map_cons, List.map_nil, Nat.reduceAdd, Nat.reduceMul, Nat.reduceSub, ↓reduceIte, Nat.reduceEqDiff]); rfl))) | fail))
      (first | refine dm_end_none ?_ | fail); (apply awpA_cong; (case hT => rfl); (case hH => (simp only [List.nil_append]; rfl))); (refine awpA_1 10 (by decide +kernel) rfl rfl ?_; (first | (apply Stp_evl; (case h => ((apply Evl_k 0 rfl; (exact Evl_as _ rfl)))); (apply awpA_cong; (case hT => ((try simp only [wtn]); rfl)); (case hH => rfl))) | fail)); refine awpA_done (by decide +kernel) ?_
      (repeat (first | refine thenA_normal ?_ | refine inBlockA_normal ?_ | fail))
      refine awp_row3 0 rfl fun q1 q2 q3 => ?_
      rcases q3 with ⟨rfl, q4, rfl⟩ | ⟨gg, rfl⟩
      · (repeat' (first | with_reducible (first | refine awp_region ?_ | refine awpL_nil ?_ | refine thenA_normal ?_) | ((apply awpL_evl2 rfl); (case h => ((first | (apply Evl_k 0 rfl; (first | exact Evl_mv _ rfl | exact Evl_as _ rfl)) | (apply Evl_x; (case hs => (intro _ _ h; cases h)); (case hx => rfl); (case hrun => (intro w; simp [wtb, AV.val, go_sem]; (try go_bits); rfl)))))); (case hT => ((try simp only [wtn]); rfl))) | fail))
        refine ⟨(m - 1, k4, [], 0, 0, none), by simp only; omega, ⟨by simp only; omega, hk4, Nat.le_refl _, by simp only; omega, Nat.le_refl _, Nat.zero_le _, fun _ => ⟨rfl, rfl⟩, by have e : brc [] = 0 := rfl; simp only [List.take_nil, e]; omega⟩, ?_⟩
        simp only [Option.map_none]
        rw [q4]
        exact Weak.mk' [.row none _ _ _ _ _, .box g _] [.box bd _] (List.Perm.cons _ (List.Perm.swap _ _ _)) (VwHs.refl _ _) (by (repeat' (first | exact VwL.nil | (refine VwL.cons ?_ ?_) | exact Vw.refl _ | exact Vw.top _ | (refine Vw.eq ?_; (congr 3; omega)) | fail)))
      · (repeat' (first | with_reducible (first | refine awp_region ?_ | refine awpL_nil ?_ | refine thenA_normal ?_) | ((apply awpL_evl2 rfl); (case h => ((first | (apply Evl_k 0 rfl; (first | exact Evl_mv _ rfl | exact Evl_as _ rfl)) | (apply Evl_x; (case hs => (intro _ _ h; cases h)); (case hx => rfl); (case hrun => (intro w; simp [wtb, AV.val, go_sem]; (try go_bits); rfl)))))); (case hT => ((try simp only [wtn]); rfl))) | fail))
        refine ⟨(m - 1, k4, full.take i ++ (full.drop (i + 1)).take (n - (i + 1)), i + (n - (i + 1)), cap, some gg), by simp only; omega, ⟨by simp only; omega, hk4, by simp; omega, by simp only; omega, q1, q2, (fun h => by cases h), by simp only; have g8 := g8'.out; have := brc_del full i n hi; omega⟩, ?_⟩
        simp only [Option.map_some]
        exact Weak.mk' [.box g _] [.box bd _, .row (some ⟨gg, 0, none⟩) _ cap _ _ _] (by (repeat' (first | exact List.Perm.refl _ | refine (List.perm_middle (l₁ := [_])).trans (List.Perm.cons _ ?_) | refine (List.perm_middle (l₁ := [_, _])).trans (List.Perm.cons _ ?_) | fail))) (VwHs.cons (VwH.refl _ _) (VwHs.cons (VwH.rowboxe (by simp [u8a, u8s])) VwHs.nil)) (by (repeat' (first | exact VwL.nil | (refine VwL.cons ?_ ?_) | exact Vw.refl _ | exact Vw.top _ | (refine Vw.eq ?_; (congr 3; omega)) | fail)))
    · refine awp_mix (B := []) (R := [.box bd _, .box g _]) mixed [1, 2, 3, 5, 6, 7, 8, 14, 15, 16, 0, 4, 9, 10, 11, 12, 13, 17] [0, 4, 9, 11, 12, 13, 17] [18] none [] 1 (List.Perm.refl _) (by decide +kernel) rfl (fun i o h => by cases h) (by decide) ?_
      (repeat' (first | (apply dm_quiet rfl rfl; (case h => (intro H1; (try simp only [List.nil_append]); (first | (apply Evl_k 0 rfl; (exact Evl_mv _ rfl)) | (apply Evl_k 7 rfl; (exact Evl_index_own _ _ _ _ _ _ _ _ _ _ _ _ rfl rfl rfl HEl.out rfl (by first | omega | fail))) | (apply Evl_k 9 rfl; (exact Evl_slice_own _ _ _ _ _ _ _ _ _ _ _ _ rfl rfl HEl.out (by first | exact .inl ⟨rfl, rfl⟩ | exact .inr ⟨_, _, rfl, rfl⟩ | fail) (by first | exact .inl ⟨rfl, rfl⟩ | exact .inr ⟨_, _, rfl, rfl⟩ | fail) (by omega) (by omega))) | (apply Evl_x; (case hs => (intro _ _ h; cases h)); (case hx => rfl); (case hrun => (intro w; simp [wtb, AV.val, go_sem]; skip; rfl)))))); (case hT => ((try simp (disch := omega) only [wtn, ite_self, Nat.sub_zero, List.append_eq, List.foldl_cons, List.foldl_nil, List.map_cons, List.map_nil, Nat.reduceAdd, Nat.reduceMul, Nat.reduceSub, ↓reduceIte, Nat.reduceEqDiff]); rfl))) | (apply dm_loud rfl rfl; (first | (refine Stp_k 11 rfl ?_; ((refine Stp_call 19 Tryz.f19 [_] _ _ _ rfl rfl Tryz.func19 (by decide) rfl (List.perm_middle (l₁ := [_])) (VwL.refl _ _) (next_w _ l _ n hd (by assumption) (by omega) (by omega)) ?_; rintro _ _ ⟨j, kj, rfl, rfl, hj, hkj⟩))) | (refine Stp_k 13 rfl ?_; (first | (refine Stp_append _ _ _ _ _ _ _ _ _ _ _ _ _ _ rfl rfl FRow.out (Src.part 2 rfl rfl (by omega) g6 rfl) HElem.out (by first | (simp; omega) | fail) (fits _ _ (by first | omega | fail) (by decide)) (fun ad cap => ?_)) | (refine Stp_append _ _ _ _ _ _ _ _ _ _ _ _ _ _ rfl rfl FRow.out (Src.cut2 (n := n) 3 rfl rfl (by omega) g5 g6 rfl) HElem.out (by first | (simp; omega) | fail) (fits _ _ (by first | omega | fail) (by decide)) (fun ad cap => ?_)) | (refine Stp_append _ _ _ _ _ _ _ _ _ _ _ _ _ _ rfl rfl FRow.out (Src.row _ rfl FRow.out) HElem.out (by first | rfl | fail) (fits _ _ (by omega) (by decide)) (fun ad cap => ?_)))) | (refine Stp_k 17 rfl ?_; ((refine Stp_buildSlice _ _ _ _ _ _ _ _ rfl HElem.out (by first | rfl | fail) rfl (by decide) rfl (fun b => ?_))))); refine ⟨_, rfl, ?_⟩; apply dm_cong; (case hT => ((try simp (disch := omega) only [wtn, ite_self, Nat.sub_zero, List.append_eq, List.foldl_cons, List.foldl_nil, List.map_cons, List.map_nil, Nat.reduceAdd, Nat.reduceMul, Nat.reduceSub, ↓reduceIte, Nat.reduceEqDiff]); rfl)); (case hH => ((try simp (disch := omega) only [wtn, ite_self, Nat.sub_zero, List.append_eq, List.foldl_cons, List.foldl_nil, List.map_cons, List.map_nil, Nat.reduceAdd, Nat.reduceMul, Nat.reduceSub, ↓reduceIte, Nat.reduceEqDiff]); rfl))) | (apply dm_loud rfl rfl; apply Stp_evl; (case h => ((apply Evl_k 6 rfl; (exact Evl_load_bx 2 _ _ _ _ _ rfl rfl rfl HAgg.out (by omega))))); refine ⟨_, rfl, ?_⟩; apply dm_cong; (case hT => ((try simp (disch := omega) only [wtn, ite_self, Nat.sub_zero, List.append_eq, List.foldl_cons, List.foldl_nil, List.map_cons, List.map_nil, Nat.reduceAdd, Nat.reduceMul, Nat.reduceSub, ↓reduceIte, Nat.reduceEqDiff]); rfl)); (case hH => rfl)) | fail))
      (first | refine dm_end_none ?_ | fail); (apply awpA_cong; (case hT => rfl); (case hH => (simp only [List.nil_append]; rfl))); (refine awpA_1 18 (by decide +kernel) rfl rfl ?_; (first | (apply Stp_evl; (case h => ((apply Evl_k 0 rfl; (exact Evl_as _ rfl)))); (apply awpA_cong; (case hT => ((try simp only [wtn]); rfl)); (case hH => rfl))) | fail)); refine awpA_done (by decide +kernel) ?_
      (repeat (first | refine thenA_normal ?_ | refine inBlockA_normal ?_ | fail))
      refine awp_row3 2 rfl fun q1 q2 q3 => ?_
      rcases q3 with ⟨rfl, q4, rfl⟩ | ⟨gg, rfl⟩
      · exfalso; omega
      · (repeat' (first | with_reducible (first | refine awp_region ?_ | refine awpL_nil ?_ | refine thenA_normal ?_) | ((apply awpL_evl2 rfl); (case h => ((first | (apply Evl_k 0 rfl; (first | exact Evl_mv _ rfl | exact Evl_as _ rfl)) | (apply Evl_x; (case hs => (intro _ _ h; cases h)); (case hx => rfl); (case hrun => (intro w; simp [wtb, AV.val, go_sem]; (try go_bits); rfl)))))); (case hT => ((try simp only [wtn]); rfl))) | fail))
        refine ⟨(m - 1, kj, full.take i ++ [full.getD j 0] ++ (full.drop i).take (n - i), i + 1 + (n - i), cap, some gg), by simp only; omega, ⟨by simp only; omega, hkj, by simp; omega, by simp only; omega, q1, q2, (fun h => by cases h), by simp only; have g8 := g8'.out; have := brc_dup full i n (full.getD j 0) (Nat.le_of_lt hi); omega⟩, ?_⟩
        simp only [Option.map_some]
        exact Weak.mk' [.row (some ⟨b, 0, none⟩) _ _ _ _ _, .box g _] [.box bd _, .row (some ⟨gg, 0, none⟩) _ cap _ _ _] (by (repeat' (first | exact List.Perm.refl _ | refine List.Perm.cons _ ?_ | refine (List.perm_middle (l₁ := [_, _])).trans (List.Perm.cons _ ?_) | fail))) (VwHs.cons (VwH.refl _ _) (VwHs.cons (VwH.rowboxe (show (u8a full).take i ++ [.x (.int .u8 ((full.getD j 0).toNat : Nat))] ++ ((u8a full).drop i).take (n - i) = _ by simp [u8a, u8s])) VwHs.nil)) (by (repeat' (first | exact VwL.nil | (refine VwL.cons ?_ ?_) | exact Vw.refl _ | exact Vw.top _ | (refine Vw.eq ?_; (congr 3; omega)) | fail)))
    · refine ⟨(m - 1, k4, full, i, cap, some g), by simp only; omega, ⟨by simp only; omega, hk4, by simp only; omega, by simp only; omega, by simp only; omega, g6, (fun h => by cases h), by simp only; have g8 := g8'.out; have := brc_cut full (Nat.le_of_lt hi); omega⟩, ?_⟩
      simp only [Option.map_some]
      exact Weak.mk' [] [.box bd _, .box g _] (List.Perm.refl _) (VwHs.refl _ _) (by (repeat' (first | exact VwL.nil | (refine VwL.cons ?_ ?_) | exact Vw.refl _ | exact Vw.top _ | (refine Vw.eq ?_; (congr 3; omega)) | fail)))
    · refine endA_ret _ _ (Res1 rfl (RV.tmp _) (Weak.mk' [.box g _] [.box bd _] (List.Perm.swap _ _ _) (VwHs.refl _ _) (VwL.refl _ _))) ?_
      have g8 := g8'.out
      refine ⟨full.take n, kk, rfl, rfl, g2, ?_, by omega⟩
      rw [List.length_take]; omega
theorem spoil_w (bd : Nat) (l : List Int) (k : Nat) (s : List UInt8) (hd : DK l) (hk : k ≤ l.length) (hs : s.length ≤ 4000) : Spec Tryz.prog 12 [.box bd [.sq l.length (ia l), .x (.int .i64 k)]] [.x (.pointer (some ⟨bd, 0, none⟩)), .x (.string (bs s))] (fun r H' => ∃ (s' : List UInt8) (k' : Nat), r = .x (.string (bs s')) ∧ H' = [.box bd [.sq l.length (ia l), .x (.int .i64 k')]] ∧ k' ≤ l.length ∧ s'.length ≤ s.length + 2) :=
  (spoil_x bd l k s hd hk hs).mono fun r H' ⟨s', k', h1, h2, h3, h4, _⟩ => ⟨s', k', h1, h2, h3, h4⟩
end Go.Proofs.YtkhhlmonhapmaaaGreatDoor
