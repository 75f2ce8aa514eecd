import Derived.Test.YtkhhlmonhapmaaaGreatDoorW14
import Derived.Test.YtkhhlmonhapmaaaGreatDoorW8
import Derived.Test.YtkhhlmonhapmaaaGreatDoorW6
/- The reference's printer: numbers, policies, signals, patterns. -/
set_option linter.unusedSimpArgs false
set_option linter.unusedVariables false
namespace Go.Proofs.YtkhhlmonhapmaaaGreatDoor
open Go.RowKit
def decL (n : Nat) : List UInt8 := if h : n < 10 then [UInt8.ofNat (48 + n)] else decL (n / 10) ++ decL (n % 10)
termination_by n
decreasing_by
  · omega
  · omega
theorem decL_len : ∀ (k n : Nat), n < 10 ^ (k + 1) → (decL n).length ≤ k + 1
  | 0, n, h => by rw [decL, dif_pos (by omega)]; simp
  | k + 1, n, h => by
    rw [decL]
    split
    · simp
    · rw [List.length_append]
      have h1 := decL_len k (n / 10) (by rw [Nat.pow_succ] at h; omega)
      have h2 := decL_len 0 (n % 10) (by omega)
      omega
theorem tdiv10 (n : Nat) : Int.tdiv (n : Int) 10 = ((n / 10 : Nat) : Int) := rfl
theorem tmod10 (n : Nat) : Int.tmod (n : Int) 10 = ((n % 10 : Nat) : Int) := rfl
theorem decL_len2 (n : Nat) (hn : n ≤ 18446744073709551615) : (decL n).length ≤ 20 :=
  decL_len 19 n (by have : (10:Nat) ^ (19 + 1) = 100000000000000000000 := by decide
                    omega)
set_option maxRecDepth 100000 in
set_option maxHeartbeats 8000000 in
theorem decimal_small (n : Nat) (h10 : n < 10) : Spec Tryz.prog 113 [] [.x (.int .u64 n)] (fun r H' => r = .x (.string (bs (decL n))) ∧ H' = []) := by
  refine Spec_of Tryz.func113 rfl ?_
  simp only [Tryz.ntmps113, List.length_cons, List.length_nil, List.replicate_succ, List.replicate_zero, List.cons_append, List.nil_append, Nat.reduceAdd, Nat.reduceSub]
  (repeat' (first | with_reducible (first | refine awp_seq ?_ | refine awp_region ?_ | refine awp_ret ?_ | refine awpL_nil ?_ | refine thenA_normal ?_ | refine thenA_ret ?_) | (refine awp_cond _ rfl (fun h => ?_) (fun h => ?_) <;> ((try (simp only [whn] at h)); first | (exfalso; omega; done) | skip)) | ((apply awpL_evl2 rfl); (case h => ((first | (apply Evl_k 0 rfl; (first | exact Evl_mv _ rfl | exact Evl_as _ rfl)) | (apply Evl_k 12 rfl; (exact Evl_string _ _ 5 _ [_] rfl (by kernel_rfl) (by kernel_rfl) (by kernel_rfl) (Src.chr 0 _ (by omega) (by omega) rfl rfl))) | (apply Evl_x; (case hs => (intro _ _ h; cases h)); (case hx => rfl); (case hrun => (intro w; simp [wtb, AV.val, go_sem]; (try go_bits); rfl)))))); (case hT => ((try simp only [wtn]); rfl))) | (refine awpL_cons rfl ?_; (((refine Stp_k 17 rfl ?_; ((refine Stp_buildSlice _ _ _ _ _ _ _ _ rfl HElem.out (by first | rfl | fail) rfl (by decide) rfl (fun b => ?_))))); apply awpL_cong; (case hT => ((try simp only [wtn]); rfl)); (case hH => ((try simp only [wtn]); rfl)))) | fail))
  refine endA_ret _ _ (Res1 rfl (RV.tmp _) (Weak.mk' [_] [] (List.Perm.refl _) (VwHs.refl _ _) (by first | exact VwL.refl _ _ | fail))) ?_
  refine ⟨?_, rfl⟩
  rw [decL, dif_pos h10]
  simp only [ev, List.getD_cons_succ, List.getD_cons_zero]
  congr 3
set_option maxRecDepth 100000 in
set_option maxHeartbeats 8000000 in
theorem decimal_big (n : Nat) (hn : n ≤ 18446744073709551615) (h10 : ¬ n < 10) (h1 : Spec Tryz.prog 113 [] [.x (.int .u64 (n / 10 : Nat))] (fun r H' => r = .x (.string (bs (decL (n / 10)))) ∧ H' = []))
    (h2 : Spec Tryz.prog 113 [] [.x (.int .u64 (n % 10 : Nat))] (fun r H' => r = .x (.string (bs (decL (n % 10)))) ∧ H' = [])) : Spec Tryz.prog 113 [] [.x (.int .u64 n)] (fun r H' => r = .x (.string (bs (decL n))) ∧ H' = []) := by
  have hL1 := decL_len2 (n / 10) (by omega)
  have hL2 := decL_len2 (n % 10) (by omega)
  refine Spec_of Tryz.func113 rfl ?_
  simp only [Tryz.ntmps113, List.length_cons, List.length_nil, List.replicate_succ, List.replicate_zero, List.cons_append, List.nil_append, Nat.reduceAdd, Nat.reduceSub]
  (repeat' (first | with_reducible (first | refine awp_seq ?_ | refine awp_region ?_ | refine awp_ret ?_ | refine awp_skip ?_ | refine awpL_nil ?_ | refine thenA_normal ?_) | (refine awp_cond _ rfl (fun h => ?_) (fun h => ?_) <;> ((try (simp only [whn] at h)); first | (exfalso; omega; done) | skip)) | ((apply awpL_evl2 rfl); (case h => ((first | (apply Evl_k 0 rfl; (first | exact Evl_mv _ rfl | exact Evl_as _ rfl)) | (apply Evl_k 11 rfl; (first | exact Evl_call 113 Tryz.f113 _ _ rfl rfl Tryz.func113 (by decide) rfl (VwL.refl _ _) (h1) | exact Evl_call 113 Tryz.f113 _ _ rfl rfl Tryz.func113 (by decide) rfl (VwL.refl _ _) (h2))) | (apply Evl_k 12 rfl; (exact Evl_concat _ _ _ _ rfl rfl rfl (by omega))) | (apply Evl_x; (case hs => (intro _ _ h; cases h)); (case hx => rfl); (case hrun => (intro w; simp [wtb, AV.val, go_sem]; (try go_bits); rfl)))))); (case hT => ((try simp (disch := omega) only [wtn, tdiv10, tmod10, List.append_eq, List.foldl_cons, List.foldl_nil, List.map_cons, List.map_nil, Nat.reduceAdd, Nat.reduceMul, Nat.reduceSub, ↓reduceIte, Nat.reduceEqDiff]); rfl))) | fail))
  refine endA_ret _ _ (Res1 rfl (RV.tmp _) (Weak.mk' [] _ (List.Perm.refl _) (VwHs.refl _ _) (VwL.refl _ _))) ?_
  refine ⟨?_, rfl⟩
  conv => rhs; rw [decL, dif_neg h10]
  rfl
theorem decimal_s (n : Nat) (hn : n ≤ 18446744073709551615) : Spec Tryz.prog 113 [] [.x (.int .u64 n)] (fun r H' => r = .x (.string (bs (decL n))) ∧ H' = []) := by
  induction n using Nat.strongRecOn with
  | _ n ih =>
    by_cases h10 : n < 10
    · exact decimal_small n h10
    · exact decimal_big n hn h10 (ih (n / 10) (by omega) (by omega)) (ih (n % 10) (by omega) (by omega))
def policyL (n : Int) : List UInt8 := if n = 3 then [97, 108, 119, 97, 121, 115] else if n = 2 then [111, 110, 45, 102, 97, 105, 108, 117, 114, 101] else if n = 1 then [110, 101, 118, 101, 114] else [63]
set_option maxRecDepth 100000 in
set_option maxHeartbeats 8000000 in
theorem policy_s (n : Int) : Spec Tryz.prog 112 [] [.x (.int .i64 n)] (fun r H' => r = .x (.string (bs (policyL n))) ∧ H' = []) := by
  refine Spec_of Tryz.func112 rfl ?_
  simp only [Tryz.ntmps112, List.length_cons, List.length_nil, List.replicate_succ, List.replicate_zero, List.cons_append, List.nil_append, Nat.reduceAdd, Nat.reduceSub]
  (repeat' (first | with_reducible (first | refine awp_seq ?_ | refine awp_region ?_ | refine awp_block ?_ | refine awp_ret ?_ | refine awp_skip ?_ | refine awpL_nil ?_ | refine thenA_normal ?_ | refine thenA_ret ?_ | refine inBlockA_normal ?_ | refine inBlockA_ret ?_) | (refine awp_cond _ rfl (fun h => ?_) (fun h => ?_) <;> ((try (simp only [whn] at h)); skip)) | ((apply awpL_evl2 rfl); (case h => ((first | (apply Evl_k 0 rfl; (first | exact Evl_mv _ rfl | exact Evl_as _ rfl)) | (apply Evl_x; (case hs => (intro _ _ h; cases h)); (case hx => rfl); (case hrun => (intro w; simp [wtb, AV.val, go_sem]; skip; rfl)))))); (case hT => ((try simp only [wtn]); rfl))) | fail))
  all_goals
    refine endA_ret _ _ (Res1 rfl (RV.tmp _) (Weak.mk' [] _ (List.Perm.refl _) (VwHs.refl _ _) (VwL.refl _ _))) ?_
    refine ⟨?_, rfl⟩
    first | (simp [policyL, ev, *, bs]; done) | fail
end Go.Proofs.YtkhhlmonhapmaaaGreatDoor
namespace Go.Proofs.YtkhhlmonhapmaaaGreatDoor
open Go.RowKit
def digs : List UInt8 := [48, 49, 50, 51, 52, 53, 54, 55, 56, 57, 97, 98, 99, 100, 101, 102]
def escL (b : UInt8) : List UInt8 := if b.toNat = 34 ∨ b.toNat = 92 then [92, b] else if b.toNat = 10 then [92, 110] else if b.toNat = 9 then [92, 116] else if b.toNat < 32 ∨ b.toNat = 127 then [92, 120, digs.getD (b.toNat / 16) 0, digs.getD (b.toNat % 16) 0] else [b]
def escs (s : List UInt8) : List UInt8 := 34 :: s.flatMap escL
def quoteL (s : List UInt8) : List UInt8 := escs s ++ [34]
theorem escL_len (b : UInt8) : (escL b).length ≤ 4 := by
  unfold escL
  repeat' (first | (split) | (simp; done) | fail)
theorem escs_len (s : List UInt8) : (escs s).length ≤ 4 * s.length + 1 := by
  unfold escs
  rw [List.length_cons]
  induction s with
  | nil => simp
  | cons b s ih => have := escL_len b; simp only [List.flatMap_cons, List.length_append, List.length_cons] at ih ⊢; omega
theorem escs_succ (s : List UInt8) (k : Nat) (h : k < s.length) : escs (s.take (k + 1)) = escs (s.take k) ++ escL s[k] := by
  unfold escs; rw [take_snoc' s k h, List.flatMap_append, List.cons_append]; simp
theorem digs_len : digs.length = 16 := rfl
theorem cdiv16 (n : Nat) : (n : Int) / 16 = ((n / 16 : Nat) : Int) := rfl
theorem cmod16 (n : Nat) : (n : Int) % 16 = ((n % 16 : Nat) : Int) := rfl
theorem Src.bytes {ρ : Operand → AV} {H : List Hp} {x : Operand} (q : Nat) (l : List UInt8) {ad : Option Addr} {n cap : Nat} {e : TypeId} {size : Nat} {cells : List AV} (hx : ρ x = .x (.slice ad n cap)) (hq : H[q]? = some (.row ad n cap e size cells)) (hn : n = l.length) (hc : cells = u8a l) : Src ρ H x l.length (u8a l) := by
  subst hn hc; exact Src.row q hx hq
set_option maxRecDepth 100000 in
set_option maxHeartbeats 8000000 in
theorem quote_s (s : List UInt8) (hl : s.length ≤ 1000000) : Spec Tryz.prog 110 [] [.x (.string (bs s))] (fun r H' => r = .x (.string (bs (quoteL s))) ∧ H' = []) := by
  refine Spec_of Tryz.func110 rfl ?_
  simp only [Tryz.ntmps110, List.length_cons, List.length_nil, List.replicate_succ, List.replicate_zero, List.cons_append, List.nil_append, Nat.reduceAdd, Nat.reduceSub]
  (repeat' (first | with_reducible (first | refine awp_seq ?_ | refine awp_region ?_ | refine awp_block ?_ | refine awpL_nil ?_ | refine thenA_normal ?_) | ((apply awpL_evl2 rfl); (case h => (((apply Evl_k 0 rfl; (exact Evl_as _ rfl))))); (case hT => ((try simp only [wtn]); rfl))) | (refine awpL_cons rfl ?_; (((refine Stp_k 17 rfl ?_; ((refine Stp_buildSlice _ _ _ _ _ _ _ _ rfl HElem.out (by first | rfl | fail) rfl (by decide) rfl (fun b => ?_))))); apply awpL_cong; (case hT => ((try simp only [wtn]); rfl)); (case hH => ((try simp only [wtn]); rfl)))) | fail))
  refine awp_loopS (S := Nat × Option Addr × Nat) (fun q => frm 66 [(0, .x (.string (bs s))), (3, .x (.string (bs digs))), (4, .x (.slice q.2.1 (escs (s.take q.1)).length q.2.2)), (5, .x (.int .i64 q.1))]) (fun q => [.row q.2.1 (escs (s.take q.1)).length q.2.2 5 1 (u8a (escs (s.take q.1)))]) (fun q => q.1 ≤ s.length) (fun q => s.length - q.1) (0, some ⟨b, 0, none⟩, 1) ?a (Nat.zero_le _) fun q hq => ?_
  case a => exact (Weak.mk' [] _ (List.Perm.refl _) (VwHs.refl _ _) (by (repeat' (first | exact VwL.nil | (refine VwL.cons ?_ ?_) | exact Vw.refl _ | exact Vw.top _ | fail))))
  obtain ⟨k, ad, cap⟩ := q
  simp only at hq
  have hsl := escs_len (s.take k)
  rw [List.length_take] at hsl
  have hdl := digs_len
  simp only [frm, List.replicate_succ, List.replicate_zero, List.foldl_cons, List.foldl_nil, List.set_cons_zero, List.set_cons_succ]
  by_cases hk : k < s.length
  · have hsu := Lib.hid (escs_succ s k hk)
    have hbk := UInt8.toNat_lt s[k]
    have hb16 : s[k].toNat / 16 < 16 := by omega
    have hb16m : s[k].toNat % 16 < 16 := by omega
    (repeat' (first | with_reducible (first | refine awp_seq ?_ | refine awp_region ?_ | refine awp_block ?_ | refine awp_skip ?_ | refine awpL_nil ?_ | refine thenA_normal ?_ | refine inBlockA_normal ?_) | (refine awp_cond _ rfl (fun h => ?_) (fun h => ?_) <;> ((try (simp only [whn] at h)); first | (exfalso; omega; done) | skip)) | ((first | apply awpL_evl2 rfl | apply awpL_g2 _ _ rfl rfl rfl); (case h => ((try (intro (hp : (_ : Bool) = true); ((try simp only [Bool.not_eq_true'] at hp); (try simp only [hp, wte]); (try simp only [whn] at hp)))); (first | (apply Evl_k 0 rfl; (first | exact Evl_mv _ rfl | exact Evl_as _ rfl)) | (apply Evl_k 1 rfl; (exact Evl_or _ _ _ _ _ rfl rfl rfl rfl)) | (apply Evl_k 8 rfl; (exact Evl_index_str _ _ _ _ _ _ _ rfl rfl rfl (by kernel_rfl) rfl (by omega))) | (apply Evl_x; (case hs => (intro _ _ h; cases h)); (case hx => rfl); (case hrun => (intro w; simp [wtb, AV.val, go_sem]; (try go_bits); rfl)))))); (case hT => ((try simp (disch := assumption) only [wtn, getD_at, getq_at, List.append_eq, List.foldl_cons, List.foldl_nil, List.map_cons, List.map_nil, Nat.reduceAdd, Nat.reduceMul, Nat.reduceSub, ↓reduceIte, Nat.reduceEqDiff]); rfl))) | (refine awpL_cons rfl ?_; ((first | (refine Stp_k 13 rfl ?_; ((refine Stp_append _ _ _ _ _ _ _ _ _ _ _ _ _ _ rfl rfl FRow.out (Src.row _ rfl FRow.out) HElem.out (by first | rfl | fail) (fits _ _ (by omega) (by decide)) (fun ad cap => ?_)))) | (refine Stp_k 17 rfl ?_; ((refine Stp_buildSlice _ _ _ _ _ _ _ _ rfl HElem.out (by first | rfl | fail) rfl (by decide) rfl (fun b => ?_))))); apply awpL_cong; (case hT => ((try simp (disch := omega) only [wtn, getD_at, getq_at, List.append_eq, List.foldl_cons, List.foldl_nil, List.map_cons, List.map_nil, Nat.reduceAdd, Nat.reduceMul, Nat.reduceSub, ↓reduceIte, Nat.reduceEqDiff]); rfl)); (case hH => ((try simp (disch := omega) only [wtn, getD_at, getq_at, List.append_eq, List.foldl_cons, List.foldl_nil, List.map_cons, List.map_nil, Nat.reduceAdd, Nat.reduceMul, Nat.reduceSub, ↓reduceIte, Nat.reduceEqDiff]); rfl)))) | fail))
    · have e : escs (s.take (k + 1)) = escs (s.take k) ++ [92, s[k]] := by
        rw [hsu.out]; congr 1; unfold escL; rw [if_pos (by omega)]
      refine ⟨(k + 1, ad, cap), by simp only; omega, by simp only; omega, ?_⟩
      simp only [e, u8a_app, u8a_cons, u8a_nil, List.length_append, List.length_cons, List.length_nil]
      exact (Weak.mk' [_] [_] (List.Perm.refl _) (VwHs.refl _ _) (by (repeat' (first | exact VwL.nil | (refine VwL.cons ?_ ?_) | exact Vw.refl _ | exact Vw.top _ | fail))))
    · have e : escs (s.take (k + 1)) = escs (s.take k) ++ [92, 110] := by
        rw [hsu.out]; congr 1; unfold escL; rw [if_neg (by omega), if_pos (by omega)]
      refine ⟨(k + 1, ad, cap), by simp only; omega, by simp only; omega, ?_⟩
      simp only [e, u8a_app, u8a_cons, u8a_nil, List.length_append, List.length_cons, List.length_nil]
      exact (Weak.mk' [_] [_] (List.Perm.refl _) (VwHs.refl _ _) (by (repeat' (first | exact VwL.nil | (refine VwL.cons ?_ ?_) | exact Vw.refl _ | exact Vw.top _ | fail))))
    · have e : escs (s.take (k + 1)) = escs (s.take k) ++ [92, 116] := by
        rw [hsu.out]; congr 1; unfold escL; rw [if_neg (by omega), if_neg (by omega), if_pos (by omega)]
      refine ⟨(k + 1, ad, cap), by simp only; omega, by simp only; omega, ?_⟩
      simp only [e, u8a_app, u8a_cons, u8a_nil, List.length_append, List.length_cons, List.length_nil]
      exact (Weak.mk' [_] [_] (List.Perm.refl _) (VwHs.refl _ _) (by (repeat' (first | exact VwL.nil | (refine VwL.cons ?_ ?_) | exact Vw.refl _ | exact Vw.top _ | fail))))
    · refine awp_drawnA mixed ?_
      (apply awpA_take 0 rfl rfl (by kernel_rfl) (by intro c T H hp; simp [thenA, inBlockA, jumpA, endA] at hp); (case h => (first | exact WInd_mv _ rfl | fail)); (apply awpA_cong; (case hT => ((try simp (disch := first | omega | fail) only [wtn, cdiv16, cmod16, List.append_eq, List.foldl_cons, List.foldl_nil, List.map_cons, List.map_nil, Nat.reduceAdd, Nat.reduceMul, Nat.reduceSub, ↓reduceIte, Nat.reduceEqDiff]); rfl)); (case hH => rfl))); (apply awpA_take 1 rfl rfl (by kernel_rfl) (by intro c T H hp; simp [thenA, inBlockA, jumpA, endA] at hp); (case h => (first | exact WInd_mv _ rfl | fail)); (apply awpA_cong; (case hT => ((try simp (disch := first | omega | fail) only [wtn, cdiv16, cmod16, List.append_eq, List.foldl_cons, List.foldl_nil, List.map_cons, List.map_nil, Nat.reduceAdd, Nat.reduceMul, Nat.reduceSub, ↓reduceIte, Nat.reduceEqDiff]); rfl)); (case hH => rfl))); (apply awpA_take 2 rfl rfl (by kernel_rfl) (by intro c T H hp; simp [thenA, inBlockA, jumpA, endA] at hp); (case h => (first | exact WInd_mv _ rfl | fail)); (apply awpA_cong; (case hT => ((try simp (disch := first | omega | fail) only [wtn, cdiv16, cmod16, List.append_eq, List.foldl_cons, List.foldl_nil, List.map_cons, List.map_nil, Nat.reduceAdd, Nat.reduceMul, Nat.reduceSub, ↓reduceIte, Nat.reduceEqDiff]); rfl)); (case hH => rfl))); (apply awpA_take 3 rfl rfl (by kernel_rfl) (by intro c T H hp; simp [thenA, inBlockA, jumpA, endA] at hp); (case h => (first | (apply WInd_x; (case hs => (intro _ _ h; cases h)); (case hx => rfl); (case hrun => (intro w; simp [wtb, AV.val, go_sem]; (try go_bits); rfl))) | fail)); (apply awpA_cong; (case hT => ((try simp (disch := first | omega | fail) only [wtn, cdiv16, cmod16, List.append_eq, List.foldl_cons, List.foldl_nil, List.map_cons, List.map_nil, Nat.reduceAdd, Nat.reduceMul, Nat.reduceSub, ↓reduceIte, Nat.reduceEqDiff]); rfl)); (case hH => rfl))); (apply awpA_take 4 rfl rfl (by kernel_rfl) (by intro c T H hp; simp [thenA, inBlockA, jumpA, endA] at hp); (case h => (first | exact WInd_index_str _ _ _ _ _ _ _ rfl rfl rfl (by kernel_rfl) rfl (by omega) | fail)); (apply awpA_cong; (case hT => ((try simp (disch := first | omega | fail) only [wtn, cdiv16, cmod16, List.append_eq, List.foldl_cons, List.foldl_nil, List.map_cons, List.map_nil, Nat.reduceAdd, Nat.reduceMul, Nat.reduceSub, ↓reduceIte, Nat.reduceEqDiff]); rfl)); (case hH => rfl))); (apply awpA_take 5 rfl rfl (by kernel_rfl) (by intro c T H hp; simp [thenA, inBlockA, jumpA, endA] at hp); (case h => (first | exact WInd_mv _ rfl | fail)); (apply awpA_cong; (case hT => ((try simp (disch := first | omega | fail) only [wtn, cdiv16, cmod16, List.append_eq, List.foldl_cons, List.foldl_nil, List.map_cons, List.map_nil, Nat.reduceAdd, Nat.reduceMul, Nat.reduceSub, ↓reduceIte, Nat.reduceEqDiff]); rfl)); (case hH => rfl))); (apply awpA_take 6 rfl rfl (by kernel_rfl) (by intro c T H hp; simp [thenA, inBlockA, jumpA, endA] at hp); (case h => (first | exact WInd_mv _ rfl | fail)); (apply awpA_cong; (case hT => ((try simp (disch := first | omega | fail) only [wtn, cdiv16, cmod16, List.append_eq, List.foldl_cons, List.foldl_nil, List.map_cons, List.map_nil, Nat.reduceAdd, Nat.reduceMul, Nat.reduceSub, ↓reduceIte, Nat.reduceEqDiff]); rfl)); (case hH => rfl))); (apply awpA_take 7 rfl rfl (by kernel_rfl) (by intro c T H hp; simp [thenA, inBlockA, jumpA, endA] at hp); (case h => (first | (apply WInd_x; (case hs => (intro _ _ h; cases h)); (case hx => rfl); (case hrun => (intro w; simp [wtb, AV.val, go_sem]; (try go_bits); rfl))) | fail)); (apply awpA_cong; (case hT => ((try simp (disch := first | omega | fail) only [wtn, cdiv16, cmod16, List.append_eq, List.foldl_cons, List.foldl_nil, List.map_cons, List.map_nil, Nat.reduceAdd, Nat.reduceMul, Nat.reduceSub, ↓reduceIte, Nat.reduceEqDiff]); rfl)); (case hH => rfl))); (apply awpA_take 8 rfl rfl (by kernel_rfl) (by intro c T H hp; simp [thenA, inBlockA, jumpA, endA] at hp); (case h => (first | exact WInd_index_str _ _ _ _ _ _ _ rfl rfl rfl (by kernel_rfl) rfl (by omega) | fail)); (apply awpA_cong; (case hT => ((try simp (disch := first | omega | fail) only [wtn, cdiv16, cmod16, List.append_eq, List.foldl_cons, List.foldl_nil, List.map_cons, List.map_nil, Nat.reduceAdd, Nat.reduceMul, Nat.reduceSub, ↓reduceIte, Nat.reduceEqDiff]); rfl)); (case hH => rfl)))
      (repeat ((first | refine awpA_1 9 (by decide +kernel) rfl rfl ?_ | refine awpA_1 10 (by decide +kernel) rfl rfl ?_ | refine awpA_1 11 (by decide +kernel) rfl rfl ?_ | fail); (first | (apply Stp_evl; (case h => ((apply Evl_k 0 rfl; (exact Evl_as _ rfl)))); (apply awpA_cong; (case hT => ((try simp only [wtn]); rfl)); (case hH => rfl))) | ((first | (refine Stp_k 13 rfl ?_; ((refine Stp_append _ _ _ _ _ _ _ _ _ _ _ _ _ _ rfl rfl FRow.out (Src.row _ rfl FRow.out) HElem.out (by first | rfl | fail) (fits _ _ (by omega) (by decide)) (fun ad cap => ?_)))) | (refine Stp_k 17 rfl ?_; ((refine Stp_buildSlice _ _ _ _ _ _ _ _ rfl HElem.out (by first | rfl | fail) rfl (by decide) rfl (fun b => ?_))))); apply awpA_cong; (case hT => ((try simp only [wtn]); rfl)); (case hH => ((try simp only [wtn]); rfl))) | fail)))
      refine awpA_done (by decide +kernel) ?_
      (repeat' (first | with_reducible (first | refine awp_region ?_ | refine awpL_nil ?_ | refine thenA_normal ?_ | refine inBlockA_normal ?_) | ((apply awpL_evl2 rfl); (case h => ((first | (apply Evl_k 0 rfl; (first | exact Evl_mv _ rfl | exact Evl_as _ rfl)) | (apply Evl_x; (case hs => (intro _ _ h; cases h)); (case hx => rfl); (case hrun => (intro w; simp [wtb, AV.val, go_sem]; (try go_bits); rfl)))))); (case hT => ((try simp only [wtn]); rfl))) | fail))
      have e : escs (s.take (k + 1)) = escs (s.take k) ++ [92, 120, digs.getD (s[k].toNat / 16) 0, digs.getD (s[k].toNat % 16) 0] := by
        rw [hsu.out]; congr 1; unfold escL; rw [if_neg (by omega), if_neg (by omega), if_neg (by omega), if_pos (by omega)]
      refine ⟨(k + 1, ad, cap), by simp only; omega, by simp only; omega, ?_⟩
      simp only [e, u8a_app, u8a_cons, u8a_nil, List.length_append, List.length_cons, List.length_nil]
      exact (Weak.mk' [_] [_] (List.Perm.refl _) (VwHs.refl _ _) (by (repeat' (first | exact VwL.nil | (refine VwL.cons ?_ ?_) | exact Vw.refl _ | exact Vw.top _ | fail))))
    · have e : escs (s.take (k + 1)) = escs (s.take k) ++ [s[k]] := by
        rw [hsu.out]; congr 1; unfold escL; rw [if_neg (by omega), if_neg (by omega), if_neg (by omega), if_neg (by omega)]
      refine ⟨(k + 1, ad, cap), by simp only; omega, by simp only; omega, ?_⟩
      simp only [e, u8a_app, u8a_cons, u8a_nil, List.length_append, List.length_cons, List.length_nil]
      exact (Weak.mk' [_] [_] (List.Perm.refl _) (VwHs.refl _ _) (by (repeat' (first | exact VwL.nil | (refine VwL.cons ?_ ?_) | exact Vw.refl _ | exact Vw.top _ | fail))))
  · obtain rfl : k = s.length := by omega
    (repeat' (first | with_reducible (first | refine awp_seq ?_ | refine awp_region ?_ | refine awp_ret ?_ | refine awp_exit ?_ | refine awpL_nil ?_ | refine thenA_normal ?_ | refine thenA_exit ?_ | refine inBlockA_eq ?_) | (refine awp_cond _ rfl (fun h => ?_) (fun h => ?_) <;> first | (exact absurd h (by decide)) | ((try (simp only [] at h)); skip)) | ((apply awpL_evl2 rfl); (case h => ((first | (apply Evl_k 0 rfl; (first | exact Evl_mv _ rfl | exact Evl_as _ rfl)) | (apply Evl_k 12 rfl; (exact Evl_string _ _ 5 _ (escs (s.take s.length) ++ [34]) rfl (by kernel_rfl) (by kernel_rfl) (by kernel_rfl) (Src.bytes 1 _ rfl rfl (by simp; done) (by simp only [u8a_app, u8a_cons, u8a_nil]; rfl)))) | (apply Evl_x; (case hs => (intro _ _ h; cases h)); (case hx => rfl); (case hrun => (intro w; simp [wtb, AV.val, go_sem]; skip; rfl)))))); (case hT => ((try simp only [wtn]); rfl))) | (refine awpL_cons rfl ?_; ((first | (refine Stp_k 13 rfl ?_; ((refine Stp_append _ _ _ _ _ _ _ _ _ _ _ _ _ _ rfl rfl FRow.out (Src.row _ rfl FRow.out) HElem.out (by first | rfl | fail) (fits _ _ (by omega) (by decide)) (fun ad cap => ?_)))) | (refine Stp_k 17 rfl ?_; ((refine Stp_buildSlice _ _ _ _ _ _ _ _ rfl HElem.out (by first | rfl | fail) rfl (by decide) rfl (fun b => ?_))))); apply awpL_cong; (case hT => ((try simp only [wtn]); rfl)); (case hH => ((try simp only [wtn]); rfl)))) | fail))
    refine endA_ret _ _ (Res1 rfl (RV.tmp _) (Weak.mk' [_, _] [] (List.Perm.refl _) (VwHs.refl _ _) (by first | exact VwL.refl _ _ | fail))) ?_
    refine ⟨?_, rfl⟩
    simp only [ev, List.getD_cons_succ, List.getD_cons_zero, List.take_length, quoteL]
end Go.Proofs.YtkhhlmonhapmaaaGreatDoor
namespace Go.Proofs.YtkhhlmonhapmaaaGreatDoor
open Go.RowKit
def sigNames : List (List UInt8) := [[72, 85, 80], [73, 78, 84], [81, 85, 73, 84], [85, 83, 82, 49], [85, 83, 82, 50], [84, 69, 82, 77]]
def sigN (n : Int) : List UInt8 := match sigNames.find? (fun s => sigL s == n) with | some s => s | none => [63]
theorem find_first {α : Type} (l : List α) (p : α → Bool) (k : Nat) (h : k < l.length) (hn : ∀ x ∈ l.take k, p x = false) (hp : p l[k] = true) : l.find? p = some l[k] := by
  rw [List.find?_eq_some_iff_getElem]
  refine ⟨hp, k, h, rfl, fun j hj => ?_⟩
  rw [hn l[j] (List.mem_iff_getElem.2 ⟨j, by rw [List.length_take]; omega, by rw [List.getElem_take]⟩)]; rfl
theorem names_len : sigNames.length = 6 := rfl
set_option maxRecDepth 100000 in
set_option maxHeartbeats 8000000 in
theorem signame_s (n : Int) : Spec Tryz.prog 114 [] [.x (.int .i64 n)] (fun r H' => r = .x (.string (bs (sigN n))) ∧ H' = []) := by
  refine Spec_of Tryz.func114 rfl ?_
  simp only [Tryz.ntmps114, List.length_cons, List.length_nil, List.replicate_succ, List.replicate_zero, List.cons_append, List.nil_append, Nat.reduceAdd, Nat.reduceSub]
  (repeat' (first | with_reducible (first | refine awp_seq ?_ | refine awp_region ?_ | refine awp_block ?_ | refine awpL_nil ?_ | refine thenA_normal ?_) | ((apply awpL_evl2 rfl); (case h => (((apply Evl_k 0 rfl; (exact Evl_as _ rfl))))); (case hT => ((try simp only [wtn]); rfl))) | (refine awpL_cons rfl ?_; (((refine Stp_k 17 rfl ?_; ((refine Stp_buildSlice _ _ _ _ _ _ _ _ rfl HElem.out (by first | rfl | fail) rfl (by decide) rfl (fun b => ?_))))); apply awpL_cong; (case hT => ((try simp only [wtn]); rfl)); (case hH => ((try simp only [wtn]); rfl)))) | fail))
  refine awp_loopS (S := Nat) (fun k => frm 23 [(0, .x (.int .i64 n)), (3, .x (.slice (some ⟨b, 0, none⟩) 6 6)), (4, .x (.int .i64 k))]) (fun _ => [.row (some ⟨b, 0, none⟩) 6 6 9 1 (sa sigNames)]) (fun k => k ≤ 6 ∧ ∀ x ∈ sigNames.take k, (sigL x == n) = false) (fun k => 6 - k) 0 (Weak.mk' [] _ (List.Perm.refl _) (VwHs.refl _ _) (by (repeat' (first | exact VwL.nil | (refine VwL.cons ?_ ?_) | exact Vw.refl _ | exact Vw.top _ | fail)))) ⟨Nat.zero_le _, by simp⟩ fun k hk => ?_
  obtain ⟨hk, hn⟩ := hk
  have hn' := Lib.hid hn
  clear hn
  have hnl := names_len
  simp only [frm, List.replicate_succ, List.replicate_zero, List.foldl_cons, List.foldl_nil, List.set_cons_zero, List.set_cons_succ]
  (repeat' (first | with_reducible (first | refine awp_seq ?_ | refine awp_region ?_ | refine awp_block ?_ | refine awp_ret ?_ | refine awp_skip ?_ | refine awp_exit ?_ | refine awpL_nil ?_ | refine thenA_normal ?_ | refine thenA_exit ?_ | refine thenA_ret ?_ | refine inBlockA_eq ?_ | refine inBlockA_normal ?_ | refine inBlockA_ret ?_) | (refine awp_cond _ rfl (fun h => ?_) (fun h => ?_) <;> ((try (simp only [whn] at h)); skip)) | ((apply awpL_evl2 rfl); (case h => ((first | (apply Evl_k 0 rfl; (first | exact Evl_mv _ rfl | exact Evl_as _ rfl)) | (apply Evl_k 6 rfl; (exact Evl_load_row _ _ _ _ _ _ _ _ _ _ _ _ rfl rfl FRow.out HAgg.out (by first | (simp [wlq]; omega) | fail) (by first | (simp [wlq]; omega) | fail))) | (apply Evl_k 7 rfl; (exact Evl_index_own _ _ _ _ _ _ _ _ _ _ _ _ rfl rfl rfl HEl.out rfl (by first | omega | fail))) | (apply Evl_k 11 rfl; (exact Evl_call 23 Tryz.f23 _ _ rfl rfl Tryz.func23 (by decide) rfl (VwL.refl _ _) (signal_s _))) | (apply Evl_x; (case hs => (intro _ _ h; cases h)); (case hx => rfl); (case hrun => (intro w; simp [wtb, AV.val, go_sem]; (try go_bits); rfl)))))); (case hT => ((try simp (disch := omega) only [wtn, sa_drop, List.append_eq, List.foldl_cons, List.foldl_nil, List.map_cons, List.map_nil, Nat.reduceAdd, Nat.reduceMul, Nat.reduceSub, ↓reduceIte, Nat.reduceEqDiff]); rfl))) | fail))
  · refine endA_ret _ _ (Res1 rfl (RV.tmp _) (Weak.mk' [_] [] (List.Perm.refl _) (VwHs.refl _ _) (by first | exact VwL.refl _ _ | fail))) ?_
    refine ⟨?_, rfl⟩
    unfold sigN
    rw [find_first _ _ k (by omega) hn'.out (by simp [h])]
    rfl
  · exact ⟨k + 1, by omega, ⟨by omega, by rw [take_snoc' _ k (by omega)]; intro x hx; rcases List.mem_append.1 hx with hx | hx; exact hn'.out x hx; rw [List.mem_singleton] at hx; subst hx; exact beq_eq_false_iff_ne.2 h⟩, (Weak.mk' [] _ (List.Perm.refl _) (VwHs.refl _ _) (by (repeat' (first | exact VwL.nil | (refine VwL.cons ?_ ?_) | exact Vw.refl _ | exact Vw.top _ | fail))))⟩
  · refine endA_ret _ _ (Res1 rfl (RV.tmp _) (Weak.mk' [_] [] (List.Perm.refl _) (VwHs.refl _ _) (by first | exact VwL.refl _ _ | fail))) ?_
    refine ⟨?_, rfl⟩
    unfold sigN
    have hn := hn'.out
    rw [List.take_of_length_le (by omega)] at hn
    have : sigNames.find? (fun s => sigL s == n) = none := by rw [List.find?_eq_none]; intro x hx; rw [hn x hx]; simp
    rw [this]
    rfl
def slB (b : UInt8) : List UInt8 := if b.toNat = 47 then [92, b] else [b]
theorem slB_len (b : UInt8) : (slB b).length ≤ 2 := by unfold slB; split <;> simp
def slashL (s : List UInt8) : List UInt8 := s.flatMap slB
theorem slashL_succ (s : List UInt8) (k : Nat) (h : k < s.length) : slashL (s.take (k + 1)) = slashL (s.take k) ++ slB s[k] := by
  unfold slashL; rw [take_snoc' s k h, List.flatMap_append]; congr 1; simp
theorem slashL_len (s : List UInt8) : (slashL s).length ≤ 2 * s.length := by
  unfold slashL
  induction s with
  | nil => simp
  | cons b s ih => have := slB_len b; simp only [List.flatMap_cons, List.length_append, List.length_cons]; omega
set_option maxRecDepth 100000 in
set_option maxHeartbeats 8000000 in
theorem slashed13_s (s : List UInt8) (hl : s.length ≤ 1000000) : Spec Tryz.prog 111 [] [.x (.string (bs s))] (fun r H' => r = .x (.string (bs (slashL s))) ∧ H' = []) := by
  refine Spec_of Tryz.func111 rfl ?_
  simp only [Tryz.ntmps111, List.length_cons, List.length_nil, List.replicate_succ, List.replicate_zero, List.cons_append, List.nil_append, Nat.reduceAdd, Nat.reduceSub]
  (repeat' (first | with_reducible (first | refine awp_seq ?_ | refine awp_region ?_ | refine awp_block ?_ | refine awpL_nil ?_ | refine thenA_normal ?_) | ((apply awpL_evl2 rfl); (case h => (((apply Evl_k 0 rfl; (exact Evl_as _ rfl))))); (case hT => ((try simp only [wtn]); rfl))) | fail))
  refine awp_nilrow 5 1 ?_
  refine awp_loopS (S := Nat × Option Addr × Nat) (fun q => frm 26 [(0, .x (.string (bs s))), (3, .x (.slice q.2.1 (slashL (s.take q.1)).length q.2.2)), (4, .x (.int .i64 q.1))]) (fun q => [.row q.2.1 (slashL (s.take q.1)).length q.2.2 5 1 (u8a (slashL (s.take q.1)))]) (fun q => q.1 ≤ s.length) (fun q => s.length - q.1) (0, none, 0) ?a (Nat.zero_le _) fun q hq => ?_
  case a => exact (Weak.mk' [] _ (List.Perm.refl _) (VwHs.refl _ _) (by (repeat' (first | exact VwL.nil | (refine VwL.cons ?_ ?_) | exact Vw.refl _ | exact Vw.top _ | fail))))
  obtain ⟨k, ad, cap⟩ := q
  simp only at hq
  have hsl := slashL_len (s.take k)
  rw [List.length_take] at hsl
  simp only [frm, List.replicate_succ, List.replicate_zero, List.foldl_cons, List.foldl_nil, List.set_cons_zero, List.set_cons_succ]
  by_cases hk : k < s.length
  · have hsu := Lib.hid (slashL_succ s k hk)
    (repeat' (first | with_reducible (first | refine awp_seq ?_ | refine awp_region ?_ | refine awp_block ?_ | refine awp_skip ?_ | refine awpL_nil ?_ | refine thenA_normal ?_ | refine inBlockA_normal ?_) | (refine awp_cond _ rfl (fun h => ?_) (fun h => ?_) <;> ((try (simp only [whn] at h)); first | (exfalso; omega; done) | skip)) | ((apply awpL_evl2 rfl); (case h => ((first | (apply Evl_k 0 rfl; (first | exact Evl_mv _ rfl | exact Evl_as _ rfl)) | (apply Evl_k 8 rfl; (exact Evl_index_str _ _ _ _ _ _ _ rfl rfl rfl (by kernel_rfl) rfl (by omega))) | (apply Evl_x; (case hs => (intro _ _ h; cases h)); (case hx => rfl); (case hrun => (intro w; simp [wtb, AV.val, go_sem]; (try go_bits); rfl)))))); (case hT => ((try simp (disch := assumption) only [wtn, getD_at, getq_at, List.append_eq, List.foldl_cons, List.foldl_nil, List.map_cons, List.map_nil, Nat.reduceAdd, Nat.reduceMul, Nat.reduceSub, ↓reduceIte, Nat.reduceEqDiff]); rfl))) | (refine awpL_cons rfl ?_; ((first | (refine Stp_k 13 rfl ?_; ((refine Stp_append _ _ _ _ _ _ _ _ _ _ _ _ _ _ rfl rfl FRow.out (Src.row _ rfl FRow.out) HElem.out (by first | rfl | fail) (fits _ _ (by omega) (by decide)) (fun ad cap => ?_)))) | (refine Stp_k 17 rfl ?_; ((refine Stp_buildSlice _ _ _ _ _ _ _ _ rfl HElem.out (by first | rfl | fail) rfl (by decide) rfl (fun b => ?_))))); apply awpL_cong; (case hT => ((try simp (disch := omega) only [wtn, getD_at, getq_at, List.append_eq, List.foldl_cons, List.foldl_nil, List.map_cons, List.map_nil, Nat.reduceAdd, Nat.reduceMul, Nat.reduceSub, ↓reduceIte, Nat.reduceEqDiff]); rfl)); (case hH => ((try simp (disch := omega) only [wtn, getD_at, getq_at, List.append_eq, List.foldl_cons, List.foldl_nil, List.map_cons, List.map_nil, Nat.reduceAdd, Nat.reduceMul, Nat.reduceSub, ↓reduceIte, Nat.reduceEqDiff]); rfl)))) | fail))
    · have e : slashL (s.take (k + 1)) = slashL (s.take k) ++ [92, s[k]] := by rw [hsu.out]; congr 1; unfold slB; rw [if_pos (by omega)]
      refine ⟨(k + 1, ad, cap), by simp only; omega, by simp only; omega, ?_⟩
      simp only [e, u8a_app, u8a_cons, u8a_nil, List.append_assoc, List.cons_append, List.nil_append, List.length_append, List.length_cons, List.length_nil]
      exact (Weak.mk' [_, _] [_] (List.Perm.refl _) (VwHs.refl _ _) (by (repeat' (first | exact VwL.nil | (refine VwL.cons ?_ ?_) | exact Vw.refl _ | exact Vw.top _ | fail))))
    · have e : slashL (s.take (k + 1)) = slashL (s.take k) ++ [s[k]] := by rw [hsu.out]; congr 1; unfold slB; rw [if_neg (by omega)]
      refine ⟨(k + 1, ad, cap), by simp only; omega, by simp only; omega, ?_⟩
      simp only [e, u8a_app, u8a_cons, u8a_nil, List.length_append, List.length_cons, List.length_nil]
      exact (Weak.mk' [_] [_] (List.Perm.refl _) (VwHs.refl _ _) (by (repeat' (first | exact VwL.nil | (refine VwL.cons ?_ ?_) | exact Vw.refl _ | exact Vw.top _ | fail))))
  · obtain rfl : k = s.length := by omega
    (repeat' (first | with_reducible (first | refine awp_seq ?_ | refine awp_region ?_ | refine awp_ret ?_ | refine awp_exit ?_ | refine awpL_nil ?_ | refine thenA_normal ?_ | refine thenA_exit ?_ | refine inBlockA_eq ?_) | (refine awp_cond _ rfl (fun h => ?_) (fun h => ?_) <;> first | (exact absurd h (by decide)) | ((try (simp only [] at h)); skip)) | ((apply awpL_evl2 rfl); (case h => ((first | (apply Evl_k 0 rfl; (first | exact Evl_mv _ rfl | exact Evl_as _ rfl)) | (apply Evl_k 12 rfl; (exact Evl_string _ _ 5 _ _ rfl (by kernel_rfl) (by kernel_rfl) (by kernel_rfl) (Src.row 0 rfl rfl))) | (apply Evl_x; (case hs => (intro _ _ h; cases h)); (case hx => rfl); (case hrun => (intro w; simp [wtb, AV.val, go_sem]; skip; rfl)))))); (case hT => ((try simp only [wtn]); rfl))) | fail))
    refine endA_ret _ _ (Res1 rfl (RV.tmp _) (Weak.mk' [_] [] (List.Perm.refl _) (VwHs.refl _ _) (by first | exact VwL.refl _ _ | fail))) ?_
    refine ⟨?_, rfl⟩
    simp only [ev, List.getD_cons_succ, List.getD_cons_zero, List.take_length]
end Go.Proofs.YtkhhlmonhapmaaaGreatDoor
namespace Go.Proofs.YtkhhlmonhapmaaaGreatDoor
open Go.RowKit
theorem decimal_i (v : Int) (h0 : 0 ≤ v) (h1 : v ≤ 18446744073709551615) : Spec Tryz.prog 113 [] [.x (.int .u64 v)] (fun r H' => r = .x (.string (bs (decL v.toNat))) ∧ H' = []) := by
  have := decimal_s v.toNat (by omega)
  rwa [show ((v.toNat : Nat) : Int) = v by omega] at this
theorem dec_le (v : Int) (h1 : v ≤ 18446744073709551615) : (decL v.toNat).length ≤ 20 := decL_len2 _ (by omega)
theorem quoteL_len (s : List UInt8) : (quoteL s).length ≤ 4 * s.length + 2 := by
  unfold quoteL; rw [List.length_append]; have := escs_len s; simp; omega
theorem sigN_len (n : Int) : (sigN n).length ≤ 4 := by
  unfold sigN
  cases h : sigNames.find? (fun s => sigL s == n) with
  | none => simp
  | some s =>
    have := List.mem_of_find?_eq_some h
    simp only [sigNames, List.mem_cons, List.not_mem_nil, or_false] at this
    rcases this with rfl | rfl | rfl | rfl | rfl | rfl <;> simp
theorem policyL_len (n : Int) : (policyL n).length ≤ 10 := by
  unfold policyL; repeat' (first | split | (simp; done) | fail)
end Go.Proofs.YtkhhlmonhapmaaaGreatDoor
namespace Go.Proofs.YtkhhlmonhapmaaaGreatDoor
open Go.RowKit
end Go.Proofs.YtkhhlmonhapmaaaGreatDoor
