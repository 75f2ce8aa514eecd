import Derived.Test.YtfaljkenmbbbaaaDoorW24
import Derived.Test.YtfaljkenmbbbaaaDoorW15
import Derived.Test.YtfaljkenmbbbaaaDoorW0
import Derived.ProofKit
import Derived.OpenShut
import Derived.ShutString
import Derived.ChangeOld
import Derived.Lib.SmallJoins
import Derived.SizedLaws
import Derived.Test.YtfaljkenmbbbaaaDoorW16
import Derived.Test.YtfaljkenmbbbaaaDoorW6
import Derived.Test.YtfaljkenmbbbaaaDoorRows
import Derived.Test.YtfaljkenmbbbaaaDoorW9
import Derived.ChangeSame
import Derived.ChangeVars
import Derived.JoinedOf
import Derived.LaidLaws
import Derived.LaidHandle
import Derived.Stop.Joined
import Derived.RowKit
/- The mill: a text with changed bytes; that it ends, and how long it is. -/
namespace Go.Proofs.YtfaljkenmbbbaaaDoor
open Go.RowKit
set_option linter.unusedSimpArgs false
set_option linter.unusedVariables false
def spoilC : List UInt8 := [123, 125, 44, 61, 47, 34, 92, 35, 97, 48, 32, 10, 45]
theorem spoilC_len : spoilC.length = 13 := rfl
theorem u8a_spl (l : List UInt8) (i : Nat) (c : UInt8) : spl (u8a l) i [.x (.int .u8 (c.toNat : Nat))] = u8a (l.take i ++ [c] ++ l.drop (i + 1)) := by simp [spl, u8a, u8s]
theorem u8a_getD (l : List UInt8) (j : Nat) (h : j < l.length) : ((u8a l).drop j).getD 0 .top = .x (.int .u8 ((l.getD j 0).toNat : Nat)) := by rw [u8a_drop l j h]; rfl
theorem Src.bytesOf {ρ : Operand → AV} {H : List Hp} {x : Operand} (q : Nat) {b n cap : Nat} (full : List UInt8) (hx : ρ x = .x (.slice (some ⟨b, 0, none⟩) n cap)) (hq : H[q]? = some (.box b (u8a full))) (h1 : n ≤ cap) (h2 : cap ≤ maxLen) (h3 : n ≤ full.length) : Src ρ H x (full.take n).length (u8a (full.take n)) := by
  rw [List.length_take, Nat.min_eq_left h3]
  exact Src.part q hx hq h1 h2 (by simp [u8a, u8s])
theorem Src.cut2 {ρ : Operand → AV} {H : List Hp} {x : Operand} (q : Nat) {b n cap l h : Nat} {cells news : List AV} (hx : ρ x = .x (.slice (if cap = l then some ⟨b, 0, none⟩ else some ⟨b, l, none⟩) (h - l) (cap - l))) (hq : H[q]? = some (.box b cells)) (h1 : l ≤ h) (h2 : h ≤ cap) (h3 : cap ≤ maxLen) (h4 : news = (cells.drop l).take (h - l)) : Src ρ H x (h - l) news :=
  Src.cut (n := n) (off := 0) q (by rw [Nat.zero_add, Nat.mul_one]; exact hx) hq h1 h2 h3 (by rw [Nat.zero_add]; exact h4)
theorem Evl_load_bx {P : Program} {o : Oper} {ρ : Operand → AV} {H : List Hp} (i : Nat) (t : TypeId) (x : Operand) (b j : Nat) (full : List UInt8) (ho : o.op = .load t x) (hx : ρ x = .x (.pointer (some ⟨b, j, none⟩))) (hi : H[i]? = some (.box b (u8a full))) (ht : aggT P t = some (false, 1)) (h : j < full.length) : Evl P o ρ H (.x (.int .u8 ((full.getD j 0).toNat : Nat))) := by
  have := Evl_load i t x b j (u8a full) false 1 ho hx hi ht (by rw [u8a_len]; omega) (by rw [u8a_len]; omega)
  rwa [show ldA false 1 ((u8a full).drop j) = .x (.int .u8 ((full.getD j 0).toNat : Nat)) from u8a_getD full j h] at this
theorem VwH.rowboxe {D : List Hp} {g n cap : Nat} {e : TypeId} {l l' : List AV} (h : l = l') : VwH D (.row (some ⟨g, 0, none⟩) n cap e 1 l) (.box g l') := h ▸ VwH.rowbox g n cap e l
attribute [local simp] u8a_len
set_option maxRecDepth 100000 in
set_option maxHeartbeats 8000000 in
theorem spoil_w (bd : Nat) (l : List Int) (k : Nat) (s : List UInt8) (hd : DK l) (hk : k ≤ l.length) (hs : s.length ≤ 4000) : Spec Tryd.prog 11 [.box bd [.sq l.length (ia l), .x (.int .i64 k)]] [.x (.pointer (some ⟨bd, 0, none⟩)), .x (.string (bs s))] (fun r H' => ∃ (s' : List UInt8) (k' : Nat), r = .x (.string (bs s')) ∧ H' = [.box bd [.sq l.length (ia l), .x (.int .i64 k')]] ∧ k' ≤ l.length ∧ s'.length ≤ s.length + 2) := by
  refine Spec_of Tryd.func11 rfl ?_
  simp only [Tryd.ntmps11, List.length_cons, List.length_nil, List.replicate_succ, List.replicate_zero, List.cons_append, List.nil_append, Nat.reduceAdd, Nat.reduceSub]
  (repeat' (first | with_reducible (first | refine awp_seq ?_ | refine awp_region ?_ | refine awp_block ?_ | refine awpL_nil ?_ | refine thenA_normal ?_) | ((apply awpL_evl2 rfl); (case h => ((try (intro (hp : (_ : Bool) = true); ((try simp only [Bool.and_eq_true, Bool.not_eq_true', Bool.not_eq_true] at hp); (try simp only [hp, wte]); (try simp only [whn] at hp)))); ((apply Evl_k 0 rfl; (first | exact Evl_mv _ rfl | exact Evl_as _ rfl))))); (case hT => ((try simp only [wtn, List.append_eq, List.foldl_cons, List.foldl_nil, List.map_cons, List.map_nil, Nat.reduceAdd, Nat.reduceMul, Nat.reduceSub, ↓reduceIte, Nat.reduceEqDiff]); rfl))) | (refine awpL_cons rfl ?_; ((first | (refine Stp_k 11 rfl ?_; ((refine Stp_call 19 Tryd.f19 [_] _ _ _ rfl rfl Tryd.func19 (by decide) rfl (List.perm_middle (l₁ := [_])) (VwL.refl _ _) (next_w _ l k 3 hd hk (by omega) (by omega)) ?_; rintro _ _ ⟨v1, k2, rfl, rfl, hv1, hk2⟩))) | (refine Stp_k 12 rfl ?_; ((refine Stp_bytes _ _ 5 _ _ rfl (by kernel_rfl) (by kernel_rfl) (by kernel_rfl) (by kernel_rfl) rfl (by omega) (fun b cap hc1 hc2 => ?_))))); apply awpL_cong; (case hT => ((try simp only [wtn, List.append_eq, List.foldl_cons, List.foldl_nil, List.map_cons, List.map_nil, Nat.reduceAdd, Nat.reduceMul, Nat.reduceSub, ↓reduceIte, Nat.reduceEqDiff]); rfl)); (case hH => ((try simp only [wtn, List.append_eq, List.foldl_cons, List.foldl_nil, List.map_cons, List.map_nil, Nat.reduceAdd, Nat.reduceMul, Nat.reduceSub, ↓reduceIte, Nat.reduceEqDiff]); rfl)))) | fail))
  apply awp_loopS (S := Nat × Nat × List UInt8 × Nat × Nat × Option Nat) (fun q => frm 72 [(0, .x (.pointer (some ⟨bd, 0, none⟩))), (5, .x (.slice (q.2.2.2.2.2.map fun g => ⟨g, 0, none⟩) q.2.2.2.1 q.2.2.2.2.1)), (6, .x (.int .i64 q.1))]) (fun q => .box bd [.sq l.length (ia l), .x (.int .i64 q.2.1)] :: (match q.2.2.2.2.2 with | some g => [.box g (u8a q.2.2.1)] | none => []))
    (fun q => q.1 ≤ 2 ∧ q.2.1 ≤ l.length ∧ q.2.2.2.1 ≤ q.2.2.1.length ∧ q.2.2.2.1 + q.1 ≤ s.length + 2 ∧ q.2.2.2.1 ≤ q.2.2.2.2.1 ∧ q.2.2.2.2.1 ≤ maxLen ∧ (q.2.2.2.2.2 = none → q.2.2.2.1 = 0 ∧ q.2.2.2.2.1 = 0)) (fun q => q.1) (v1, k2, s, s.length, cap, some b)
  case h0 => exact (Weak.mk' [] _ (List.Perm.refl _) (VwHs.refl _ _) (by (repeat' (first | exact VwL.nil | (refine VwL.cons ?_ ?_) | exact Vw.refl _ | exact Vw.top _ | fail))))
  case hi => exact ⟨by simp only; omega, hk2, Nat.le_refl _, by simp only; omega, hc1, hc2, fun h => by cases h⟩
  rintro ⟨m, kk, full, n, cap, ob⟩ ⟨g1, g2, g3, g4, g5, g6, g7⟩
  simp only at g1 g2 g3 g4 g5 g6 g7
  cases ob with
  | none =>
    obtain ⟨rfl, rfl⟩ := g7 rfl
    simp only [Option.map_none]
    simp only [frm, List.replicate_succ, List.replicate_zero, List.foldl_cons, List.foldl_nil, List.set_cons_zero, List.set_cons_succ]
    (repeat' (first | with_reducible (first | refine awp_seq ?_ | refine awp_region ?_ | refine awp_ret ?_ | refine awp_exit ?_ | refine awpL_nil ?_ | refine thenA_normal ?_ | refine thenA_exit ?_ | refine inBlockA_eq ?_) | (refine awp_cond _ rfl (fun h => ?_) (fun h => ?_) <;> first | (exact absurd h (by decide)) | ((try (simp only [whn] at h)); skip)) | ((first | apply awpL_evl2 rfl | apply awpL_g2 _ _ rfl rfl rfl); (case h => ((try (intro (hp : (_ : Bool) = true); ((try simp only [Bool.and_eq_true, Bool.not_eq_true', Bool.not_eq_true] at hp); (try simp only [hp, wte]); (try simp only [whn] at hp)))); (first | (apply Evl_k 0 rfl; (first | exact Evl_mv _ rfl | exact Evl_as _ rfl)) | (apply Evl_k 1 rfl; (exact Evl_and _ _ _ _ _ rfl rfl rfl rfl)) | (apply Evl_x; (case hs => (intro _ _ h; cases h)); (case hx => rfl); (case hrun => (intro w; simp [wtb, AV.val, go_sem]; (try go_bits); rfl)))))); (case hT => ((try simp only [wtn, List.append_eq, List.foldl_cons, List.foldl_nil, List.map_cons, List.map_nil, Nat.reduceAdd, Nat.reduceMul, Nat.reduceSub, ↓reduceIte, Nat.reduceEqDiff]); rfl))) | fail))
    refine endA_ret _ _ (Res1 rfl (RV.tmp _) (Weak.mk' [] _ (List.Perm.refl _) (VwHs.refl _ _) (VwL.refl _ _))) ?_
    exact ⟨[], kk, rfl, rfl, g2, Nat.zero_le _⟩
  | some g =>
    clear g7
    simp only [Option.map_some]
    simp only [frm, List.replicate_succ, List.replicate_zero, List.foldl_cons, List.foldl_nil, List.set_cons_zero, List.set_cons_succ]
    (repeat' (first | with_reducible (first | refine awp_seq ?_ | refine awp_region ?_ | refine awp_block ?_ | refine awp_ret ?_ | refine awp_skip ?_ | refine awp_exit ?_ | refine awpL_nil ?_ | refine thenA_normal ?_ | refine thenA_exit ?_ | refine inBlockA_eq ?_ | refine inBlockA_normal ?_) | (refine awp_cond _ rfl (fun h => ?_) (fun h => ?_) <;> ((try (simp only [whn] at h)); skip)) | ((first | apply awpL_evl2 rfl | apply awpL_g2 _ _ rfl rfl rfl); (case h => ((try (intro (hp : (_ : Bool) = true); ((try simp only [Bool.and_eq_true, Bool.not_eq_true', Bool.not_eq_true] at hp); (try simp only [hp, wte]); (try simp only [whn] at hp)))); (first | (apply Evl_k 0 rfl; (first | exact Evl_mv _ rfl | exact Evl_as _ rfl)) | (apply Evl_k 1 rfl; (exact Evl_and _ _ _ _ _ rfl rfl rfl rfl)) | (apply Evl_k 7 rfl; (exact Evl_index_own _ _ _ _ _ _ _ _ _ _ _ _ rfl rfl rfl HEl.out rfl (by first | omega | fail))) | (apply Evl_k 8 rfl; (exact Evl_index_str _ _ _ _ _ _ _ rfl rfl rfl (by kernel_rfl) rfl (by omega))) | (apply Evl_k 9 rfl; (exact Evl_slice_own _ _ _ _ _ _ _ _ _ _ _ _ rfl rfl HEl.out (by first | exact .inl ⟨rfl, rfl⟩ | fail) (by first | exact .inr ⟨_, _, rfl, rfl⟩ | fail) (by omega) (by omega))) | (apply Evl_k 12 rfl; (exact Evl_string _ _ 5 _ (full.take n) rfl (by kernel_rfl) (by kernel_rfl) (by kernel_rfl) (Src.bytesOf 1 full rfl rfl g5 g6 g3))) | (apply Evl_x; (case hs => (intro _ _ h; cases h)); (case hx => rfl); (case hrun => (intro w; simp [wtb, AV.val, go_sem]; (try go_bits); rfl)))))); (case hT => ((try simp (disch := omega) only [wtn, ite_self, Nat.sub_zero, List.append_eq, List.foldl_cons, List.foldl_nil, List.map_cons, List.map_nil, Nat.reduceAdd, Nat.reduceMul, Nat.reduceSub, ↓reduceIte, Nat.reduceEqDiff]); rfl))) | (refine awpL_cons rfl ?_; ((first | (refine Stp_k 11 rfl ?_; (first | (refine Stp_call 19 Tryd.f19 [_] _ _ _ rfl rfl Tryd.func19 (by decide) rfl (List.Perm.refl _) (VwL.refl _ _) (next_w _ l _ 4 hd (by assumption) (by omega) (by omega)) ?_; rintro _ _ ⟨v4, k4, rfl, rfl, hv4, hk4⟩) | (refine Stp_call 19 Tryd.f19 [_] _ _ _ rfl rfl Tryd.func19 (by decide) rfl (List.Perm.refl _) (VwL.refl _ _) (next_w _ l _ 13 hd (by assumption) (by omega) (by omega)) ?_; rintro _ _ ⟨v13, k13, rfl, rfl, hv13, hk13⟩) | (refine Stp_call 19 Tryd.f19 [_] _ _ _ rfl rfl Tryd.func19 (by decide) rfl (List.Perm.refl _) (VwL.refl _ _) (next_w _ l _ n hd (by assumption) (by omega) (by omega)) ?_; rintro _ _ ⟨i, ki, rfl, rfl, hi, hki⟩))) | (refine Stp_k 16 rfl ?_; ((refine Stp_store _ _ _ _ _ _ _ rfl rfl FBox.out HSize.out (by first | rfl | fail) (by first | (simp [wlq]; omega) | fail) ?_)))); apply awpL_cong; (case hT => ((try simp (disch := omega) only [wtn, ite_self, Nat.sub_zero, List.append_eq, List.foldl_cons, List.foldl_nil, List.map_cons, List.map_nil, Nat.reduceAdd, Nat.reduceMul, Nat.reduceSub, ↓reduceIte, Nat.reduceEqDiff]); rfl)); (case hH => ((try simp (disch := omega) only [wtn, ite_self, Nat.sub_zero, List.append_eq, List.foldl_cons, List.foldl_nil, List.map_cons, List.map_nil, Nat.reduceAdd, Nat.reduceMul, Nat.reduceSub, ↓reduceIte, Nat.reduceEqDiff]); rfl)))) | fail))
    · have e : spl (u8a full) i [.x (.int .u8 (([123, 125, 44, 61, 47, 34, 92, 35, 97, 48, 32, 10, 45] : List UInt8).getD v13 0).toNat)] = u8a (full.take i ++ [([123, 125, 44, 61, 47, 34, 92, 35, 97, 48, 32, 10, 45] : List UInt8).getD v13 0] ++ full.drop (i + 1)) := u8a_spl full i _
      refine ⟨(m - 1, k13, full.take i ++ [([123, 125, 44, 61, 47, 34, 92, 35, 97, 48, 32, 10, 45] : List UInt8).getD v13 0] ++ full.drop (i + 1), n, cap, some g), by simp only; omega, ⟨by simp only; omega, hk13, by simp; omega, by simp only; omega, g5, g6, fun h => by cases h⟩, ?_⟩
      rw [e]
      simp only [Option.map_some]
      exact Weak.mk' [] [.box bd _, .box g _] (List.Perm.refl _) (VwHs.refl _ _) (by (repeat' (first | exact VwL.nil | (refine VwL.cons ?_ ?_) | exact Vw.refl _ | exact Vw.top _ | (refine Vw.eq ?_; (congr 3; omega)) | fail)))
    · refine awp_mix (B := []) (R := [.box bd _, .box g _]) mixed [1, 2, 3, 5, 6, 7, 8, 0, 4, 9] [0, 4, 9] [10] none [] 1 (List.Perm.refl _) (by decide +kernel) rfl (fun i o h => by cases h) (by decide) ?_
      (repeat' (first | (apply dm_quiet rfl rfl; (case h => (intro H1; (try simp only [List.cons_append, List.nil_append]); (first | (apply Evl_k 0 rfl; (exact Evl_mv _ rfl)) | (apply Evl_k 9 rfl; (exact Evl_slice_own _ _ _ _ _ _ _ _ _ _ _ _ rfl rfl HEl.out (by first | exact .inl ⟨rfl, rfl⟩ | exact .inr ⟨_, _, rfl, rfl⟩ | fail) (by first | exact .inl ⟨rfl, rfl⟩ | exact .inr ⟨_, _, rfl, rfl⟩ | fail) (by omega) (by omega))) | (apply Evl_x; (case hs => (intro _ _ h; cases h)); (case hx => rfl); (case hrun => (intro w; simp [wtb, AV.val, go_sem]; (try go_bits); rfl)))))); (case hT => ((try simp (disch := omega) only [wtn, ite_self, Nat.sub_zero, nat_up, List.append_eq, List.foldl_cons, List.foldl_nil, List.map_cons, List.map_nil, Nat.reduceAdd, Nat.reduceMul, Nat.reduceSub, ↓reduceIte, Nat.reduceEqDiff]); rfl))) | (apply dm_loud rfl rfl; (first | (refine Stp_k 13 rfl ?_; (first | (refine Stp_append _ _ _ _ _ _ _ _ _ _ _ _ _ _ rfl rfl FRow.out (Src.part 2 rfl rfl (by omega) g6 rfl) HElem.out (by first | (simp; omega) | fail) (fits _ _ (by first | omega | fail) (by decide)) (fun ad cap => ?_)) | (refine Stp_append _ _ _ _ _ _ _ _ _ _ _ _ _ _ rfl rfl FRow.out (Src.cut2 (n := n) 2 rfl rfl (by omega) g5 g6 rfl) HElem.out (by first | (simp; omega) | fail) (fits _ _ (by first | omega | fail) (by decide)) (fun ad cap => ?_)))) | (refine Stp_k 17 rfl ?_; ((refine Stp_buildSlice _ _ _ _ _ _ _ _ rfl HElem.out (by first | rfl | fail) rfl (by decide) rfl (fun b => ?_))))); refine ⟨_, rfl, ?_⟩; apply dm_cong; (case hT => ((try simp (disch := omega) only [wtn, ite_self, Nat.sub_zero, nat_up, List.append_eq, List.foldl_cons, List.foldl_nil, List.map_cons, List.map_nil, Nat.reduceAdd, Nat.reduceMul, Nat.reduceSub, ↓reduceIte, Nat.reduceEqDiff]); rfl)); (case hH => ((try simp (disch := omega) only [wtn, ite_self, Nat.sub_zero, nat_up, List.append_eq, List.foldl_cons, List.foldl_nil, List.map_cons, List.map_nil, Nat.reduceAdd, Nat.reduceMul, Nat.reduceSub, ↓reduceIte, Nat.reduceEqDiff]); rfl))) | fail))
      (first | refine dm_end_none ?_ | fail); (apply awpA_cong; (case hT => ((try simp only [wtn, List.append_eq, List.foldl_cons, List.foldl_nil, List.map_cons, List.map_nil, Nat.reduceAdd, Nat.reduceMul, Nat.reduceSub, ↓reduceIte, Nat.reduceEqDiff]); rfl)); (case hH => (simp only [List.cons_append, List.nil_append]; rfl))); (refine awpA_1 10 (by decide +kernel) rfl rfl ?_; (first | (apply Stp_evl; (case h => ((apply Evl_k 0 rfl; (exact Evl_as _ rfl)))); (apply awpA_cong; (case hT => ((try simp only [wtn, List.append_eq, List.foldl_cons, List.foldl_nil, List.map_cons, List.map_nil, Nat.reduceAdd, Nat.reduceMul, Nat.reduceSub, ↓reduceIte, Nat.reduceEqDiff]); rfl)); (case hH => rfl))) | fail)); refine awpA_done (by decide +kernel) ?_
      (repeat (first | refine thenA_normal ?_ | refine inBlockA_normal ?_ | fail))
      refine awp_row3 0 rfl fun q1 q2 q3 => ?_
      rcases q3 with ⟨rfl, q4, rfl⟩ | ⟨gg, rfl⟩
      · (repeat' (first | with_reducible (first | refine awp_region ?_ | refine awpL_nil ?_ | refine thenA_normal ?_) | ((apply awpL_evl2 rfl); (case h => ((try (intro (hp : (_ : Bool) = true); ((try simp only [Bool.and_eq_true, Bool.not_eq_true', Bool.not_eq_true] at hp); (try simp only [hp, wte]); (try simp only [whn] at hp)))); (first | (apply Evl_k 0 rfl; (first | exact Evl_mv _ rfl | exact Evl_as _ rfl)) | (apply Evl_x; (case hs => (intro _ _ h; cases h)); (case hx => rfl); (case hrun => (intro w; simp [wtb, AV.val, go_sem]; (try go_bits); rfl)))))); (case hT => ((try simp only [wtn, List.append_eq, List.foldl_cons, List.foldl_nil, List.map_cons, List.map_nil, Nat.reduceAdd, Nat.reduceMul, Nat.reduceSub, ↓reduceIte, Nat.reduceEqDiff]); rfl))) | fail))
        refine ⟨(m - 1, k4, [], 0, 0, none), by simp only; omega, ⟨by simp only; omega, hk4, Nat.le_refl _, by simp only; omega, Nat.le_refl _, Nat.zero_le _, fun _ => ⟨rfl, rfl⟩⟩, ?_⟩
        simp only [Option.map_none]
        rw [q4]
        exact Weak.mk' [.row none _ _ _ _ _, .box g _] [.box bd _] (List.Perm.cons _ (List.Perm.swap _ _ _)) (VwHs.refl _ _) (by (repeat' (first | exact VwL.nil | (refine VwL.cons ?_ ?_) | exact Vw.refl _ | exact Vw.top _ | (refine Vw.eq ?_; (congr 3; omega)) | fail)))
      · (repeat' (first | with_reducible (first | refine awp_region ?_ | refine awpL_nil ?_ | refine thenA_normal ?_) | ((apply awpL_evl2 rfl); (case h => ((try (intro (hp : (_ : Bool) = true); ((try simp only [Bool.and_eq_true, Bool.not_eq_true', Bool.not_eq_true] at hp); (try simp only [hp, wte]); (try simp only [whn] at hp)))); (first | (apply Evl_k 0 rfl; (first | exact Evl_mv _ rfl | exact Evl_as _ rfl)) | (apply Evl_x; (case hs => (intro _ _ h; cases h)); (case hx => rfl); (case hrun => (intro w; simp [wtb, AV.val, go_sem]; (try go_bits); rfl)))))); (case hT => ((try simp only [wtn, List.append_eq, List.foldl_cons, List.foldl_nil, List.map_cons, List.map_nil, Nat.reduceAdd, Nat.reduceMul, Nat.reduceSub, ↓reduceIte, Nat.reduceEqDiff]); rfl))) | fail))
        refine ⟨(m - 1, k4, full.take i ++ (full.drop (i + 1)).take (n - (i + 1)), i + (n - (i + 1)), cap, some gg), by simp only; omega, ⟨by simp only; omega, hk4, by simp; omega, by simp only; omega, q1, q2, fun h => by cases h⟩, ?_⟩
        simp only [Option.map_some]
        exact Weak.mk' [.box g _] [.box bd _, .row (some ⟨gg, 0, none⟩) _ cap _ _ _] (by (repeat' (first | exact List.Perm.refl _ | refine (List.perm_middle (l₁ := [_])).trans (List.Perm.cons _ ?_) | refine (List.perm_middle (l₁ := [_, _])).trans (List.Perm.cons _ ?_) | fail))) (VwHs.cons (VwH.refl _ _) (VwHs.cons (VwH.rowboxe (by simp [u8a, u8s])) VwHs.nil)) (by (repeat' (first | exact VwL.nil | (refine VwL.cons ?_ ?_) | exact Vw.refl _ | exact Vw.top _ | (refine Vw.eq ?_; (congr 3; omega)) | fail)))
    · refine awp_mix (B := []) (R := [.box bd _, .box g _]) mixed [1, 2, 3, 5, 6, 7, 8, 14, 15, 16, 0, 4, 9, 10, 11, 12, 13, 17] [0, 4, 9, 11, 12, 13, 17] [18] none [] 1 (List.Perm.refl _) (by decide +kernel) rfl (fun i o h => by cases h) (by decide) ?_
      (repeat' (first | (apply dm_quiet rfl rfl; (case h => (intro H1; (try simp only [List.cons_append, List.nil_append]); (first | (apply Evl_k 0 rfl; (exact Evl_mv _ rfl)) | (apply Evl_k 7 rfl; (exact Evl_index_own _ _ _ _ _ _ _ _ _ _ _ _ rfl rfl rfl HEl.out rfl (by first | omega | fail))) | (apply Evl_k 9 rfl; (exact Evl_slice_own _ _ _ _ _ _ _ _ _ _ _ _ rfl rfl HEl.out (by first | exact .inl ⟨rfl, rfl⟩ | exact .inr ⟨_, _, rfl, rfl⟩ | fail) (by first | exact .inl ⟨rfl, rfl⟩ | exact .inr ⟨_, _, rfl, rfl⟩ | fail) (by omega) (by omega))) | (apply Evl_x; (case hs => (intro _ _ h; cases h)); (case hx => rfl); (case hrun => (intro w; simp [wtb, AV.val, go_sem]; (try go_bits); rfl)))))); (case hT => ((try simp (disch := omega) only [wtn, ite_self, Nat.sub_zero, List.append_eq, List.foldl_cons, List.foldl_nil, List.map_cons, List.map_nil, Nat.reduceAdd, Nat.reduceMul, Nat.reduceSub, ↓reduceIte, Nat.reduceEqDiff]); rfl))) | (apply dm_loud rfl rfl; (first | (refine Stp_k 11 rfl ?_; ((refine Stp_call 19 Tryd.f19 [_] _ _ _ rfl rfl Tryd.func19 (by decide) rfl (List.perm_middle (l₁ := [_])) (VwL.refl _ _) (next_w _ l _ n hd (by assumption) (by omega) (by omega)) ?_; rintro _ _ ⟨j, kj, rfl, rfl, hj, hkj⟩))) | (refine Stp_k 13 rfl ?_; (first | (refine Stp_append _ _ _ _ _ _ _ _ _ _ _ _ _ _ rfl rfl FRow.out (Src.part 2 rfl rfl (by omega) g6 rfl) HElem.out (by first | (simp; omega) | fail) (fits _ _ (by first | omega | fail) (by decide)) (fun ad cap => ?_)) | (refine Stp_append _ _ _ _ _ _ _ _ _ _ _ _ _ _ rfl rfl FRow.out (Src.cut2 (n := n) 3 rfl rfl (by omega) g5 g6 rfl) HElem.out (by first | (simp; omega) | fail) (fits _ _ (by first | omega | fail) (by decide)) (fun ad cap => ?_)) | (refine Stp_append _ _ _ _ _ _ _ _ _ _ _ _ _ _ rfl rfl FRow.out (Src.row _ rfl FRow.out) HElem.out (by first | rfl | fail) (fits _ _ (by omega) (by decide)) (fun ad cap => ?_)))) | (refine Stp_k 17 rfl ?_; ((refine Stp_buildSlice _ _ _ _ _ _ _ _ rfl HElem.out (by first | rfl | fail) rfl (by decide) rfl (fun b => ?_))))); refine ⟨_, rfl, ?_⟩; apply dm_cong; (case hT => ((try simp (disch := omega) only [wtn, ite_self, Nat.sub_zero, List.append_eq, List.foldl_cons, List.foldl_nil, List.map_cons, List.map_nil, Nat.reduceAdd, Nat.reduceMul, Nat.reduceSub, ↓reduceIte, Nat.reduceEqDiff]); rfl)); (case hH => ((try simp (disch := omega) only [wtn, ite_self, Nat.sub_zero, List.append_eq, List.foldl_cons, List.foldl_nil, List.map_cons, List.map_nil, Nat.reduceAdd, Nat.reduceMul, Nat.reduceSub, ↓reduceIte, Nat.reduceEqDiff]); rfl))) | (apply dm_loud rfl rfl; apply Stp_evl; (case h => ((apply Evl_k 6 rfl; (exact Evl_load_bx 2 _ _ _ _ _ rfl rfl rfl HAgg.out (by omega))))); refine ⟨_, rfl, ?_⟩; apply dm_cong; (case hT => ((try simp (disch := omega) only [wtn, ite_self, Nat.sub_zero, List.append_eq, List.foldl_cons, List.foldl_nil, List.map_cons, List.map_nil, Nat.reduceAdd, Nat.reduceMul, Nat.reduceSub, ↓reduceIte, Nat.reduceEqDiff]); rfl)); (case hH => rfl)) | fail))
      (first | refine dm_end_none ?_ | fail); (apply awpA_cong; (case hT => ((try simp only [wtn, List.append_eq, List.foldl_cons, List.foldl_nil, List.map_cons, List.map_nil, Nat.reduceAdd, Nat.reduceMul, Nat.reduceSub, ↓reduceIte, Nat.reduceEqDiff]); rfl)); (case hH => (simp only [List.cons_append, List.nil_append]; rfl))); (refine awpA_1 18 (by decide +kernel) rfl rfl ?_; (first | (apply Stp_evl; (case h => ((apply Evl_k 0 rfl; (exact Evl_as _ rfl)))); (apply awpA_cong; (case hT => ((try simp only [wtn, List.append_eq, List.foldl_cons, List.foldl_nil, List.map_cons, List.map_nil, Nat.reduceAdd, Nat.reduceMul, Nat.reduceSub, ↓reduceIte, Nat.reduceEqDiff]); rfl)); (case hH => rfl))) | fail)); refine awpA_done (by decide +kernel) ?_
      (repeat (first | refine thenA_normal ?_ | refine inBlockA_normal ?_ | fail))
      refine awp_row3 2 rfl fun q1 q2 q3 => ?_
      rcases q3 with ⟨rfl, q4, rfl⟩ | ⟨gg, rfl⟩
      · exfalso; omega
      · (repeat' (first | with_reducible (first | refine awp_region ?_ | refine awpL_nil ?_ | refine thenA_normal ?_) | ((apply awpL_evl2 rfl); (case h => ((try (intro (hp : (_ : Bool) = true); ((try simp only [Bool.and_eq_true, Bool.not_eq_true', Bool.not_eq_true] at hp); (try simp only [hp, wte]); (try simp only [whn] at hp)))); (first | (apply Evl_k 0 rfl; (first | exact Evl_mv _ rfl | exact Evl_as _ rfl)) | (apply Evl_x; (case hs => (intro _ _ h; cases h)); (case hx => rfl); (case hrun => (intro w; simp [wtb, AV.val, go_sem]; (try go_bits); rfl)))))); (case hT => ((try simp only [wtn, List.append_eq, List.foldl_cons, List.foldl_nil, List.map_cons, List.map_nil, Nat.reduceAdd, Nat.reduceMul, Nat.reduceSub, ↓reduceIte, Nat.reduceEqDiff]); rfl))) | fail))
        refine ⟨(m - 1, kj, full.take i ++ [full.getD j 0] ++ (full.drop i).take (n - i), i + 1 + (n - i), cap, some gg), by simp only; omega, ⟨by simp only; omega, hkj, by simp; omega, by simp only; omega, q1, q2, fun h => by cases h⟩, ?_⟩
        simp only [Option.map_some]
        exact Weak.mk' [.row (some ⟨b, 0, none⟩) _ _ _ _ _, .box g _] [.box bd _, .row (some ⟨gg, 0, none⟩) _ cap _ _ _] (by (repeat' (first | exact List.Perm.refl _ | refine List.Perm.cons _ ?_ | refine (List.perm_middle (l₁ := [_, _])).trans (List.Perm.cons _ ?_) | fail))) (VwHs.cons (VwH.refl _ _) (VwHs.cons (VwH.rowboxe (show (u8a full).take i ++ [.x (.int .u8 ((full.getD j 0).toNat : Nat))] ++ ((u8a full).drop i).take (n - i) = _ by simp [u8a, u8s])) VwHs.nil)) (by (repeat' (first | exact VwL.nil | (refine VwL.cons ?_ ?_) | exact Vw.refl _ | exact Vw.top _ | (refine Vw.eq ?_; (congr 3; omega)) | fail)))
    · refine ⟨(m - 1, k4, full, i, cap, some g), by simp only; omega, ⟨by simp only; omega, hk4, by simp only; omega, by simp only; omega, by simp only; omega, g6, fun h => by cases h⟩, ?_⟩
      simp only [Option.map_some]
      exact Weak.mk' [] [.box bd _, .box g _] (List.Perm.refl _) (VwHs.refl _ _) (by (repeat' (first | exact VwL.nil | (refine VwL.cons ?_ ?_) | exact Vw.refl _ | exact Vw.top _ | (refine Vw.eq ?_; (congr 3; omega)) | fail)))
    · refine endA_ret _ _ (Res1 rfl (RV.tmp _) (Weak.mk' [.box g _] [.box bd _] (List.Perm.swap _ _ _) (VwHs.refl _ _) (VwL.refl _ _))) ?_
      refine ⟨full.take n, kk, rfl, rfl, g2, ?_⟩
      rw [List.length_take]; omega
end Go.Proofs.YtfaljkenmbbbaaaDoor
/- LexerTokens: the walk. -/
namespace Go.Proofs.YtfaljkenmbbbaaaDoor
open Go.RowKit
set_option linter.unusedSimpArgs false
set_option linter.unusedVariables false
set_option maxRecDepth 100000 in
set_option maxHeartbeats 8000000 in
theorem new_w (l : List Int) (H : List Hp) : Spec Tryd.prog 10 H [.sq l.length (ia l)] (fun r H' => ∃ b, r = .x (.pointer (some ⟨b, 0, none⟩)) ∧ H' = .box b [.sq l.length (ia l), .x (.int .i64 0)] :: H) := by
  refine Spec_of Tryd.func10 rfl ?_
  simp only [Tryd.ntmps10, List.length_cons, List.length_nil, List.replicate_succ, List.replicate_zero, List.cons_append, List.nil_append, Nat.reduceAdd, Nat.reduceSub]
  (repeat' (first | with_reducible (first | refine awp_seq ?_ | refine awp_region ?_ | refine awp_ret ?_ | refine awpL_nil ?_ | refine thenA_normal ?_) | ((apply awpL_evl2 rfl); (case h => ((try (intro (hp : (_ : Bool) = true); ((try simp only [Bool.and_eq_true, Bool.not_eq_true', Bool.not_eq_true] at hp); (try simp only [hp, wte]); (try simp only [whn] at hp)))); (first | (apply Evl_k 0 rfl; (first | exact Evl_mv _ rfl | exact Evl_as _ rfl)) | (apply Evl_k 10 rfl; (exact Evl_build _ _ _ _ _ rfl HPl.out (by first | rfl | fail) rfl))))); (case hT => ((try simp only [wtn, List.append_eq, List.foldl_cons, List.foldl_nil, List.map_cons, List.map_nil, Nat.reduceAdd, Nat.reduceMul, Nat.reduceSub, ↓reduceIte, Nat.reduceEqDiff]); rfl))) | (refine awpL_cons rfl ?_; (((refine Stp_k 15 rfl ?_; ((refine Stp_box _ _ rfl (by first | rfl | fail) (fun b => ?_))))); apply awpL_cong; (case hT => ((try simp only [wtn, List.append_eq, List.foldl_cons, List.foldl_nil, List.map_cons, List.map_nil, Nat.reduceAdd, Nat.reduceMul, Nat.reduceSub, ↓reduceIte, Nat.reduceEqDiff]); rfl)); (case hH => ((try simp only [wtn, List.append_eq, List.foldl_cons, List.foldl_nil, List.map_cons, List.map_nil, Nat.reduceAdd, Nat.reduceMul, Nat.reduceSub, ↓reduceIte, Nat.reduceEqDiff]); rfl)))) | fail))
  refine endA_ret _ _ (Res1 rfl (RV.tmp _) (Weak.mk' [] _ (List.Perm.refl _) (VwHs.refl _ _) (VwL.refl _ _))) ?_
  exact ⟨_, rfl, rfl⟩
def tokL (s raw : List UInt8) : List (List UInt8) := [s, raw, s ++ raw]
theorem tokL_len (s raw : List UInt8) (h : s.length ≤ 5000) (hr : raw.length ≤ 400) : ∀ x ∈ tokL s raw, x.length ≤ 10000 := by
  intro x hx
  simp only [tokL, List.mem_cons, List.mem_nil_iff, or_false] at hx
  rcases hx with rfl | rfl | rfl <;> (try rw [List.length_append]) <;> omega
set_option maxRecDepth 100000 in
set_option maxHeartbeats 8000000 in
theorem tokens_s (l : List Int) (raw : List UInt8) (hd : DK l) : Spec Tryd.prog 3 [] [.sq l.length (ia l), .x (.string (bs raw))] (fun r H' => r = .x (.bool true) ∧ H' = []) := by
  refine Spec_of Tryd.func3 rfl ?_
  simp only [Tryd.ntmps3, List.length_cons, List.length_nil, List.replicate_succ, List.replicate_zero, List.cons_append, List.nil_append, Nat.reduceAdd, Nat.reduceSub]
  (repeat' (first | with_reducible (first | refine awp_seq ?_ | refine awp_region ?_ | refine awp_block ?_ | refine awp_ret ?_ | refine awp_skip ?_ | refine awpL_nil ?_ | refine thenA_normal ?_ | refine thenA_ret ?_) | (refine awp_cond _ rfl (fun h => ?_) (fun h => ?_) <;> first | (exact absurd h (by decide)) | ((try (simp only [whn] at h)); skip)) | ((apply awpL_evl2 rfl); (case h => ((try (intro (hp : (_ : Bool) = true); ((try simp only [Bool.and_eq_true, Bool.not_eq_true', Bool.not_eq_true] at hp); (try simp only [hp, wte]); (try simp only [whn] at hp)))); (first | (apply Evl_k 0 rfl; (first | exact Evl_mv _ rfl | exact Evl_as _ rfl)) | (apply Evl_k 3 rfl; (exact Evl_len _ _ _ _ _ _ HEl.out rfl rfl)) | (apply Evl_k 11 rfl; (exact Evl_call 9 Tryd.f9 _ _ rfl rfl Tryd.func9 (by decide) rfl (VwL.refl _ _) (sane_s))) | (apply Evl_k 12 rfl; (exact Evl_concat _ _ _ _ rfl rfl rfl (by omega))) | (apply Evl_k 17 rfl; (exact Evl_rowall _ _ _ _ _ _ rfl HElem.out rfl (by first | rfl | fail) rfl rfl (by decide))) | (apply Evl_x; (case hs => (intro _ _ h; cases h)); (case hx => rfl); (case hrun => (intro w; simp [wtb, AV.val, go_sem]; (try go_bits); rfl)))))); (case hT => ((try simp only [wtn, List.append_eq, List.foldl_cons, List.foldl_nil, List.map_cons, List.map_nil, Nat.reduceAdd, Nat.reduceMul, Nat.reduceSub, ↓reduceIte, Nat.reduceEqDiff]); rfl))) | (refine awpL_cons rfl ?_; (((refine Stp_k 11 rfl ?_; (first | (refine Stp_call 10 Tryd.f10 ([]) _ _ _ rfl rfl Tryd.func10 (by decide) rfl (List.Perm.refl _) (VwL.refl _ _) (new_w l []) ?_; rintro _ _ ⟨bd, rfl, rfl⟩) | (refine Stp_call 12 Tryd.f12 [_] _ _ _ rfl rfl Tryd.func12 (by decide) rfl (List.Perm.refl _) (VwL.refl _ _) (procfile_w _ l 0 hd (Nat.zero_le _)) ?_; rintro _ _ ⟨s0, k1, rfl, rfl, hk1, hs0, hx0⟩) | (refine Stp_call 11 Tryd.f11 [_] _ _ _ rfl rfl Tryd.func11 (by decide) rfl (List.Perm.refl _) (VwL.refl _ _) (spoil_w _ l _ _ hd (by assumption) (by omega)) ?_; rintro _ _ ⟨s, k2, rfl, rfl, hk2, hs⟩)))); apply awpL_cong; (case hT => ((try simp only [wtn, List.append_eq, List.foldl_cons, List.foldl_nil, List.map_cons, List.map_nil, Nat.reduceAdd, Nat.reduceMul, Nat.reduceSub, ↓reduceIte, Nat.reduceEqDiff]); rfl)); (case hH => ((try simp only [wtn, List.append_eq, List.foldl_cons, List.foldl_nil, List.map_cons, List.map_nil, Nat.reduceAdd, Nat.reduceMul, Nat.reduceSub, ↓reduceIte, Nat.reduceEqDiff]); rfl)))) | fail))
  · refine endA_ret _ _ (Res1 rfl (RV.tmp _) (Weak.mk' [] _ (List.Perm.refl _) (VwHs.refl _ _) (VwL.refl _ _))) ?_
    exact ⟨rfl, rfl⟩
  have hL := Lib.hid (tokL_len s raw (by omega) (by omega))
  refine awp_loopS (S := Nat) (fun q => frm 55 [(29, .sq 3 (sa (tokL s raw))), (30, .x (.int .i64 3)), (31, .x (.int .i64 q))]) (fun q => []) (fun q => q ≤ 3) (fun q => 3 - q) 0 ?a (Nat.zero_le _) fun q hq => ?_
  case a => exact (Weak.mk' [_] [] (List.Perm.refl _) (VwHs.refl _ _) (by (repeat' (first | exact VwL.nil | (refine VwL.cons ?_ ?_) | exact Vw.refl _ | exact Vw.top _ | fail))))
  simp only [frm, List.replicate_succ, List.replicate_zero, List.foldl_cons, List.foldl_nil, List.set_cons_zero, List.set_cons_succ]
  by_cases hk : q < (tokL s raw).length
  · have hx := hL.out _ (List.getElem_mem hk)
    have h1 := lall_s (tokL s raw)[q] (by omega)
    have h2 := all_s (tokL s raw)[q] (by omega)
    have h3 := same_s (toksOf (lex (tokL s raw)[q])) (flt_len _)
    have h7 : q < 3 := hk
    have hdr := sa_drop (tokL s raw) q hk
    generalize (tokL s raw)[q] = x at *
    unfold Flt.av at h1 h2
    have hln : (sa (tokL s raw)).length = 3 := by simp [tokL]
    (repeat' (first | with_reducible (first | refine awp_seq ?_ | refine awp_region ?_ | refine awp_block ?_ | refine awp_skip ?_ | refine awpL_nil ?_ | refine thenA_normal ?_ | refine inBlockA_normal ?_) | (refine awp_cond _ rfl (fun h => ?_) (fun h => ?_) <;> first | (exact absurd h (by decide)) | ((try (simp only [whn] at h)); first | (exfalso; omega; done) | skip)) | ((first | apply awpL_evl2 rfl | apply awpL_g2 _ _ rfl rfl rfl); (case h => ((try (intro (hp : (_ : Bool) = true); ((try simp only [Bool.and_eq_true, Bool.not_eq_true', Bool.not_eq_true] at hp); (try simp only [hp, wte]); (try simp only [whn] at hp)))); (first | (apply Evl_k 0 rfl; (first | exact Evl_mv _ rfl | exact Evl_as _ rfl)) | (apply Evl_k 1 rfl; (exact Evl_pickf _ _ _ rfl rfl)) | (apply Evl_k 2 rfl; (exact Evl_extract _ _ _ _ rfl rfl rfl)) | (apply Evl_k 6 rfl; (first | exact Evl_load_at _ _ _ _ _ rfl rfl HAgg.out (by first | exact Nat.le_of_ble_eq_true rfl | fail) (by first | exact Nat.le_of_ble_eq_true rfl | fail) | exact Evl_load _ _ _ _ _ _ _ _ rfl rfl FBox.out HAgg.out (by first | exact Nat.le_of_ble_eq_true rfl | fail) (by first | exact Nat.le_of_ble_eq_true rfl | fail))) | (apply Evl_k 7 rfl; (exact Evl_index_sq _ _ _ _ _ _ _ _ _ _ rfl rfl rfl HEl.out rfl (by first | omega | fail) (by simp; first | omega | fail))) | (apply Evl_k 11 rfl; (first | exact Evl_call 13 Tryd.f13 _ _ rfl rfl Tryd.func13 (by decide) rfl (VwL.refl _ _) (h1) | exact Evl_call 14 Tryd.f14 _ _ rfl rfl Tryd.func14 (by decide) rfl (VwL.refl _ _) (h2) | exact Evl_call 15 Tryd.f15 _ _ rfl rfl Tryd.func15 (by decide) rfl (VwL.refl _ _) (h3))) | (apply Evl_x; (case hs => (intro _ _ h; cases h)); (case hx => rfl); (case hrun => (intro w; simp [wtb, AV.val, go_sem]; (try go_bits); rfl)))))); (case hT => ((try simp (disch := omega) only [wtn, hdr, List.append_eq, List.foldl_cons, List.foldl_nil, List.map_cons, List.map_nil, Nat.reduceAdd, Nat.reduceMul, Nat.reduceSub, ↓reduceIte, Nat.reduceEqDiff]); rfl))) | (refine awpL_cons rfl ?_; ((first | (refine Stp_k 14 rfl ?_; ((refine Stp_alloc _ _ rfl HZero.out rfl (fun b => ?_)))) | (refine Stp_k 16 rfl ?_; ((refine Stp_store _ _ _ _ _ _ _ rfl rfl FBox.out HSize.out (by first | rfl | fail) (by first | exact Nat.le_of_ble_eq_true rfl | fail) ?_)))); apply awpL_cong; (case hT => ((try simp (disch := omega) only [wtn, hdr, List.append_eq, List.foldl_cons, List.foldl_nil, List.map_cons, List.map_nil, Nat.reduceAdd, Nat.reduceMul, Nat.reduceSub, ↓reduceIte, Nat.reduceEqDiff]); rfl)); (case hH => ((try simp (disch := omega) only [wtn, hdr, List.append_eq, List.foldl_cons, List.foldl_nil, List.map_cons, List.map_nil, Nat.reduceAdd, Nat.reduceMul, Nat.reduceSub, ↓reduceIte, Nat.reduceEqDiff]); rfl)))) | fail))
    refine ⟨q + 1, by omega, by omega, ?_⟩
    exact (Weak.mk' [_, _] [] (List.Perm.refl _) (VwHs.refl _ _) (by (repeat' (first | exact VwL.nil | (refine VwL.cons ?_ ?_) | exact Vw.refl _ | exact Vw.top _ | fail))))
  · have h7 : ¬ q < 3 := hk
    (repeat' (first | with_reducible (first | refine awp_seq ?_ | refine awp_region ?_ | refine awp_ret ?_ | refine awp_exit ?_ | refine awpL_nil ?_ | refine thenA_normal ?_ | refine thenA_exit ?_ | refine inBlockA_eq ?_) | (refine awp_cond _ rfl (fun h => ?_) (fun h => ?_) <;> ((try (simp only [whn] at h)); first | (exfalso; omega; done) | skip)) | ((apply awpL_evl2 rfl); (case h => ((try (intro (hp : (_ : Bool) = true); ((try simp only [Bool.and_eq_true, Bool.not_eq_true', Bool.not_eq_true] at hp); (try simp only [hp, wte]); (try simp only [whn] at hp)))); (first | (apply Evl_k 0 rfl; (exact Evl_as _ rfl)) | (apply Evl_x; (case hs => (intro _ _ h; cases h)); (case hx => rfl); (case hrun => (intro w; simp [wtb, AV.val, go_sem]; (try go_bits); rfl)))))); (case hT => ((try simp only [wtn, List.append_eq, List.foldl_cons, List.foldl_nil, List.map_cons, List.map_nil, Nat.reduceAdd, Nat.reduceMul, Nat.reduceSub, ↓reduceIte, Nat.reduceEqDiff]); rfl))) | fail))
    refine endA_ret _ _ (Res1 rfl (RV.tmp _) (Weak.mk' [] _ (List.Perm.refl _) (VwHs.refl _ _) (VwL.refl _ _))) ?_
    exact ⟨rfl, rfl⟩
end Go.Proofs.YtfaljkenmbbbaaaDoor
/- How a law's arguments are opened: what the reading of a []byte, a []int or a struct gives the walk. No program in sight. -/
namespace Go.Proofs.YtfaljkenmbbbaaaDoor
open Go.ChangeShapes Go.WideShapes Go.ChangeAt Go.RowKit Go.Joins
set_option linter.unusedSimpArgs false
set_option linter.unusedVariables false
/-- A []int that reads as l. -/
def Is (lo : Nat) (w : World) (v : Value) (l : List Int) : Prop := Sl lo w v l.length (l.map (Value.int .i64))
theorem Is.mono {lo : Nat} {w w' : World} {v : Value} {l : List Int} (h : Is lo w v l) (hb : Ext w w') : Is lo w' v l := Sl.mono h hb
theorem Is.shape {lo : Nat} {w : World} {v : Value} {l : List Int} (h : Is lo w v l) : ∃ ad cap, v = .slice ad l.length cap ∧ l.length ≤ cap := Sl.shape h
def I64s (l : List Int) : Prop := ∀ x ∈ l, -9223372036854775808 ≤ x ∧ x ≤ 9223372036854775807
section
variable {H : Type} {enc : TypeId × Value → H} {P : Program} {W : World} {fuel : Nat} {t e : TypeId} {v : Value} {x : DataW H × List MemPlace}
theorem open_row {k : IntKind} (ht : P.underlying t = some (.slice e)) (he : P.underlying e = some (.int k)) (hc : P.cellsOf e = 1)
    (h : DataW.trod enc P W 0 (fun _ => true) true fuel t [v] = some x) (hsz : ∀ n ∈ x.1.weights P t, n ≤ reachBytes) :
    ∃ zs : List Int, Sl 0 W v zs.length (zs.map (Value.int k)) ∧ (∀ n ∈ zs, (Lit.int k n).wf = true) ∧ zs.length * P.bytesOf e ≤ reachBytes := by
  rcases open_ints ht he hc h with ⟨hcs, hx⟩ | ⟨a, len, cap, zs, hcs, _, hl, hm, hz, hx, hcell, hwz⟩
  · simp at hcs
    subst hcs
    exact ⟨[], Sl.nil _ _, by simp, by simp⟩
  · simp at hcs
    subst hcs
    have hz' : zs.length = cap := by simpa using hz
    have hlen : (zs.take len).length = len := by simp; omega
    refine ⟨zs.take len, ?_, fun n hn => hwz n (List.mem_of_mem_take hn), ?_⟩
    · refine ⟨some a, cap, by rw [hlen], by rw [hlen]; exact hl, hm, (by intro h; cases h), fun _ _ => Nat.zero_le _, fun j u hj => ⟨a, rfl, ?_⟩⟩
      rw [List.getElem?_map, List.getElem?_take] at hj
      split at hj
      · rename_i hjl
        have hjz : j < zs.length := by omega
        rw [hcell j hjz]
        simp [List.getElem?_eq_getElem hjz] at hj
        simp [← hj, List.getD, List.getElem?_eq_getElem hjz]
      · simp at hj
    · have := hsz ((lits (H := H) k (zs.take len)).length * P.bytesOf e + (lits (H := H) k (zs.drop len)).length * P.bytesOf e) (by rw [hx]; simp [DataW.weights, ht, Nat.add_mul])
      have h2 : (lits (H := H) k (zs.take len)).length = (zs.take len).length := by simp [lits]
      rw [h2] at this
      omega
theorem open_bytes (ht : P.underlying t = some (.slice e)) (he : P.underlying e = some (.int .u8)) (hc : P.cellsOf e = 1) (hb : P.bytesOf e = 1)
    (h : DataW.trod enc P W 0 (fun _ => true) true fuel t [v] = some x) (hsz : ∀ n ∈ x.1.weights P t, n ≤ reachBytes) :
    ∃ l : List UInt8, Bs 0 W v l ∧ l.length ≤ 140737488355328 := by
  obtain ⟨zs, h1, h2, h3⟩ := open_row ht he hc h hsz
  refine ⟨zs.map fun n => UInt8.ofNat n.toNat, ?_, ?_⟩
  · unfold Bs
    have : u8s (zs.map fun n => UInt8.ofNat n.toNat) = zs.map (Value.int .u8) := by
      simp only [u8s, List.map_map]
      apply List.map_congr_left
      intro n hn
      have hw := h2 n hn
      simp [Lit.wf, IntKind.min, IntKind.max, IntKind.signed, IntKind.bits] at hw
      simp
      omega
    rw [this, List.length_map]; exact h1
  · rw [List.length_map, ]
    rw [hb, Nat.mul_one] at h3
    have := reachBytes_lt
    omega
theorem open_is (ht : P.underlying t = some (.slice e)) (he : P.underlying e = some (.int .i64)) (hc : P.cellsOf e = 1) (hb : P.bytesOf e = 8)
    (h : DataW.trod enc P W 0 (fun _ => true) true fuel t [v] = some x) (hsz : ∀ n ∈ x.1.weights P t, n ≤ reachBytes) :
    ∃ l : List Int, Is 0 W v l ∧ I64s l ∧ l.length ≤ 140737488355328 := by
  obtain ⟨zs, h1, h2, h3⟩ := open_row ht he hc h hsz
  refine ⟨zs, h1, fun n hn => ?_, ?_⟩
  · have hw := h2 n hn
    simp [Lit.wf, IntKind.min, IntKind.max, IntKind.signed, IntKind.bits] at hw
    omega
  · rw [hb] at h3
    have := reachBytes_lt
    omega
end
theorem i64_bounds {a : Int} (h : (Lit.int .i64 a).wf = true) : -9223372036854775808 ≤ a ∧ a ≤ 9223372036854775807 := by
  simp [Lit.wf, IntKind.min, IntKind.max, IntKind.signed, IntKind.bits] at h
  omega
theorem weights_le {H : Type} {P : Program} {ts : List TypeId} {ds : List (DataW H)} (h : (DataW.weightsEach P ts ds).all (· ≤ reachBytes) = true) {j : Nat} {t : TypeId} {d : DataW H} (ht : ts[j]? = some t) (hd : ds[j]? = some d) : ∀ n ∈ d.weights P t, n ≤ reachBytes := fun n hn => by
  have := List.all_eq_true.1 h _ (DataW.weights_mem_each ht hd n hn)
  simpa using this
end Go.Proofs.YtfaljkenmbbbaaaDoor
/- How a law is entered: what the arguments' readings say of a walk's values. -/
namespace Go.Proofs.YtfaljkenmbbbaaaDoor
open Go.RowKit
set_option linter.unusedSimpArgs false
set_option linter.unusedVariables false
theorem Sl.den {W : World} {v : Value} {n : Nat} {xs : List Value} (h : Sl 0 W v n xs) (h1 : ∀ u ∈ xs, u.oneCell' = true) : Den (fun _ => False) W (.sq n (xs.map AV.x)) v := by
  obtain ⟨ad, cap, rfl, h1', h2, h3, h4⟩ := Sl.split h
  rw [Den]
  refine ⟨ad, cap, xs, rfl, h1', h2, h3, ?_, DenL.exact⟩
  rcases h4 with h4 | ⟨b, o, rfl, _, hc⟩
  · exact .inl h4
  · exact .inr ⟨b, o, rfl, fun h => h, fun j u hj => ⟨hc j u hj, h1 u (List.mem_of_getElem? hj)⟩⟩
theorem Is.den {W : World} {v : Value} {l : List Int} (h : Is 0 W v l) : Den (fun _ => False) W (.sq l.length (ia l)) v := by
  have := Sl.den h (fun u hu => by obtain ⟨n, -, rfl⟩ := List.mem_map.1 hu; rfl)
  have e : ia l = (l.map (Value.int .i64)).map AV.x := by simp [ia]
  rw [e]; exact this
theorem Bs.den {W : World} {v : Value} {l : List UInt8} (h : Bs 0 W v l) : Den (fun _ => False) W (.sq l.length (u8a l)) v :=
  Sl.den h (fun u hu => by obtain ⟨n, -, rfl⟩ := List.mem_map.1 hu; rfl)
end Go.Proofs.YtfaljkenmbbbaaaDoor
/- What the listed variable gives a walk: from the row's condition to its cell; a world that meets it. After the kit's worked example of errors.As. -/
namespace Go.Proofs.YtfaljkenmbbbaaaDoor
open Go.RowKit Go
set_option linter.unusedSimpArgs false
set_option linter.unusedVariables false
theorem laid_et : Tryd.prog.globalNamed "errors.errorType" = some 0 := by kernel_rfl
theorem laid_rt : (Tryd.prog.cutTypes.find? (·.1 == "internal/reflectlite.rtype")).map (·.2) = some 127 := by kernel_rfl
theorem laid_size : Tryd.prog.types.size = 186 := by kernel_rfl
theorem laid_row : ((List.range 186).filter fun t => Tryd.prog.rowNamed t [101, 114, 114, 111, 114]) = [56] := by kernel_rfl
/-- What the condition gives a walk: the variable's one cell. -/
theorem gw_of_laid {W : World} (h : laidMetH Tryd.prog [("errors.errorType", Rows.laid_errors_errorType)] W) : Gw W := by
  have h' : laidMet Tryd.prog [] W ∧ handlesMet Tryd.prog [("errors.errorType", Rows.laid_errors_errorType)] W := h
  obtain ⟨name, u, ty, e1, e2, e3, e4, e5⟩ := h'.2 _ (List.mem_singleton.2 rfl)
  have en : name = [101, 114, 114, 111, 114] := (Option.some.inj e1).symm
  subst en
  obtain rfl := Option.some.inj (laid_rt.symm.trans e2)
  have hm : ty ∈ (List.range 186).filter fun t => Tryd.prog.rowNamed t [101, 114, 114, 111, 114] := List.mem_filter.2 ⟨List.mem_range.2 (by rw [← laid_size]; exact e3), e4⟩
  rw [laid_row] at hm
  obtain rfl := List.mem_singleton.1 hm
  have hh : typeHandle Tryd.prog 56 = .pointer (some ⟨2, 56, none⟩) := by kernel_rfl
  rw [hh] at e5
  unfold Gw
  simpa using World.var?_cell laid_et e5 0
/-- A world that meets the condition: the settled one, the variable's cell laid. -/
noncomputable def laidWorld (os : Os) : World :=
  let w0 := World.holding Tryd.prog os ⟨#[], #[], []⟩
  { w0 with heap := w0.heap.modify 0 fun
      | .cells _ t frozen => .cells #[.iface 127 (.agg #[.pointer (some ⟨2, 56, none⟩)])] t frozen
      | o => o }
theorem laidWorld_met (os : Os) (args : Array Value) : laidMetH Tryd.prog [("errors.errorType", Rows.laid_errors_errorType)] ((laidWorld os).forCall (fun _ _ => 0) ⟨#[], args, []⟩).memory :=
  laidMetH_of_parts (laidMet_nil _ _) (by kernel_rfl)
theorem u8_of {a : Int} (h : (Lit.int .u8 a).wf = true) : ∃ c : UInt8, a = (c.toNat : Nat) := by
  have : 0 ≤ a ∧ a ≤ 255 := by simp [Lit.wf, IntKind.min, IntKind.max, IntKind.signed, IntKind.bits] at h; omega
  refine ⟨UInt8.ofNat a.toNat, ?_⟩
  rw [UInt8.toNat_ofNat']
  omega
end Go.Proofs.YtfaljkenmbbbaaaDoor
/- LexerPlaces, in plain Lean: comments and blanks round a text; places ascend. No program in sight. -/
namespace Go.Proofs.YtfaljkenmbbbaaaDoor
open Go.RowKit
set_option linter.unusedSimpArgs false
set_option linter.unusedVariables false
def preL : List UInt8 := [35, 32, 102, 105, 114, 115, 116, 10, 9]
def sufL : List UInt8 := [10, 35, 32, 108, 97, 115, 116]
theorem skp_pre (x : List UInt8) : skp (preL ++ x) = preL.length + skp x := by
  show skp (35 :: ([32, 102, 105, 114, 115, 116] ++ 10 :: 9 :: x)) = 9 + skp x
  have hc : cmt (35 :: ([32, 102, 105, 114, 115, 116] ++ 10 :: 9 :: x)) = 7 := by
    rw [← List.cons_append, cmt_app]; rfl
  rw [skp_cmt _ _ (by decide), hc]
  show 7 + skp (10 :: 9 :: x) = _
  rw [skp_blank _ _ (by decide), skp_blank _ _ (by decide)]; omega
theorem lex_last (p : Nat × Nat) (n : Nat) : ∃ e : Tok, lexGo p n [35, 32, 108, 97, 115, 116] = .ok [e] ∧ e.kind = 6 ∧ e.text = [] := by
  have hc : skp [35, 32, 108, 97, 115, 116] = 6 := by
    rw [skp_cmt _ _ (by decide), show cmt [35, 32, 108, 97, 115, 116] = 6 from rfl]
    show 6 + skp [] = 6
    rw [skp_nil]
  rw [lexGo_end _ _ _ (by rw [hc]; rfl)]
  exact ⟨_, rfl, rfl, rfl⟩
/-- What the law asks of the two readings. -/
def PlOk (a b : Except Flt (List Tok)) : Prop := match a, b with
  | .error f, .error g => g.code = f.code ∧ g.line = f.line + 1
  | .ok ts, .ok us => us.length = ts.length ∧ (∀ (k : Nat) (h1 : k < ts.length) (h2 : k < us.length), us[k].kind = ts[k].kind ∧ us[k].text = ts[k].text) ∧ ∀ (k : Nat) (h : k + 1 < ts.length), PL (ts[k].line, ts[k].col) (ts[k + 1].line, ts[k + 1].col)
  | _, _ => False
theorem places_plain (s : List UInt8) (h : s.length ≤ 8000) : PlOk (lex s) (lex (preL ++ s ++ sufL)) := by
  have hl1 : preL.length = 9 := rfl
  have hl2 : sufL.length = 7 := rfl
  unfold lex
  rw [if_neg (by omega), if_neg (by simp only [List.length_append]; omega), List.append_assoc, lexGo_pre _ _ _ _ (skp_pre _)]
  have hpl : plc (1, 1) preL = (2, 2) := rfl
  rw [hpl]
  have hpd := lexGo_pd (d := 1) (c := false) s.length s (1, 1) (2, 2) 0 (Nat.le_refl _) ⟨rfl, fun h => by cases h⟩
  obtain ⟨k1, k2⟩ := lexGo_app [35, 32, 108, 97, 115, 116] s.length s (2, 2) 0 (Nat.le_refl _)
  have hasc := lexGo_asc s.length s (1, 1) 0 (0, 0) (Nat.le_refl _) (.inl (by decide))
  cases ha : lexGo (1, 1) 0 s with
  | error f =>
    cases hb : lexGo (2, 2) 0 s with
    | error g =>
      rw [ha, hb] at hpd
      rw [show s ++ sufL = s ++ 10 :: [35, 32, 108, 97, 115, 116] from rfl, k1 g hb]
      exact ⟨hpd.1, hpd.2.1⟩
    | ok us => rw [ha, hb] at hpd; exact hpd.elim
  | ok ts =>
    cases hb : lexGo (2, 2) 0 s with
    | error g => rw [ha, hb] at hpd; exact hpd.elim
    | ok us =>
      rw [ha, hb] at hpd
      obtain ⟨qs, e, rfl, he1, he2, hx⟩ := k2 us hb
      obtain ⟨e', hz, hz1, hz2⟩ := lex_last (plc (2, 2) (s ++ [10])) (0 + qs.length)
      rw [show s ++ sufL = s ++ 10 :: [35, 32, 108, 97, 115, 116] from rfl, hx, hz]
      have hlen := hpd.len
      refine ⟨by simpa using hlen, fun k h1 h2 => ?_, fun k hk => (hasc ts ha).get k hk⟩
      have hg := hpd.get k h1 (by simpa using h2)
      by_cases hk : k < qs.length
      · rw [List.getElem_append_left hk] at hg
        simp only [List.getElem_append_left hk]
        exact ⟨hg.1, hg.2.1⟩
      · have hk2 : k = qs.length := by simp at h2; omega
        subst hk2
        simp only [List.getElem_append_right (Nat.le_refl _), Nat.sub_self, List.getElem_cons_zero] at hg ⊢
        exact ⟨by rw [hz1, ← hg.1, he1], by rw [hz2, ← hg.2.1, he2]⟩
theorem plc_ub : ∀ (l : List UInt8) (p : Nat × Nat), (plc p l).1 ≤ p.1 + l.length ∧ (plc p l).2 ≤ p.2 + l.length + 1
  | [], p => by simp only [plc]; constructor <;> simp <;> omega
  | c :: r, p => by
    simp only [plc, List.length_cons]
    have := plc_ub r (if c.toNat = 10 then (p.1 + 1, 1) else (p.1, p.2 + 1))
    split at this <;> (rename_i h; simp only [h, if_true, if_false] at *; omega)
/-- How far a fault, a token lies at most. -/
theorem lexGo_bnd : ∀ (m : Nat) (l : List UInt8) (p : Nat × Nat) (n : Nat), l.length ≤ m → (∀ f, lexGo p n l = .error f → f.line ≤ p.1 + l.length) ∧ ∀ ts, lexGo p n l = .ok ts → ∀ t ∈ ts, t.line ≤ p.1 + l.length
  | m, l, p, n, hm => by
    have hb : ∀ k, (plc p (l.take k)).1 ≤ p.1 + l.length := fun k => by
      have := (plc_ub (l.take k) p).1
      rw [List.length_take] at this; omega
    cases hd : l.drop (skp l) with
    | nil =>
      rw [lexGo_end p n l hd]
      refine ⟨fun f h => (by cases h), fun ts h t ht => ?_⟩
      cases h
      rw [List.mem_singleton] at ht
      subst ht
      exact (plc_ub l p).1
    | cons x r =>
      have hlen := congrArg List.length hd
      simp only [List.length_drop, List.length_cons] at hlen
      cases h1 : one (x :: r) with
      | error e => rw [lexGo_bad _ _ _ x r e hd h1]; exact ⟨fun f h => (by cases h; exact hb _), fun ts h => by cases h⟩
      | ok z =>
        by_cases hn : 2000 ≤ n
        · rw [lexGo_full _ _ _ x r z hd h1 hn]; exact ⟨fun f h => (by cases h; exact hb _), fun ts h => by cases h⟩
        · obtain ⟨a, b, k⟩ := z
          have g := one_le h1
          simp only [List.length_cons] at g
          rw [lexGo_one _ _ _ x r a b k hd h1 g.1 (by omega)]
          cases m with
          | zero => omega
          | succ m =>
            obtain ⟨k1, k2⟩ := lexGo_bnd m ((x :: r).drop k) (plc p (l.take (skp l + k))) (n + 1) (by simp; omega)
            have hp2 := (plc_ub (l.take (skp l + k)) p).1
            rw [List.length_take] at hp2
            simp only [List.length_drop, List.length_cons] at k1 k2
            cases hr : lexGo (plc p (l.take (skp l + k))) (n + 1) ((x :: r).drop k) with
            | error f => refine ⟨fun f' h => ?_, fun ts h => by cases h⟩; cases h; have := k1 _ hr; omega
            | ok ys =>
              refine ⟨fun f h => (by cases h), fun ts h t ht => ?_⟩
              cases h
              rcases List.mem_cons.1 ht with rfl | ht
              · exact hb _
              · have := k2 _ hr t ht; omega
theorem lex_line (l : List UInt8) : (∀ f, lex l = .error f → f.line ≤ 1 + l.length) ∧ ∀ ts, lex l = .ok ts → ∀ t ∈ ts, t.line ≤ 1 + l.length := by
  have h := lexGo_bnd l.length l (1, 1) 0 (Nat.le_refl _)
  unfold lex
  split
  · exact ⟨fun f h => (by cases h; simp), fun ts h => by cases h⟩
  · exact h
end Go.Proofs.YtfaljkenmbbbaaaDoor
