import Derived.Test.YtdcjhndcklofoaaW19
/- The graph: the reference's Order. -/
namespace Go.Proofs.Ytdcjhndcklofoaa
open Go.RowKit
set_option linter.unusedSimpArgs false
set_option linter.unusedVariables false
set_option maxRecDepth 100000 in
set_option maxHeartbeats 8000000 in
theorem same_spec (l m : List Int) (hl : l.length ≤ 1000000) (hm : m.length ≤ 1000000) : Spec Try.prog 8 [] [.sq l.length (ia l), .sq m.length (ia m)] (fun r H' => r = .x (.bool (decide (l = m))) ∧ H' = []) := by
  refine Spec_of Try.func8 rfl ?_
  simp only [Try.ntmps8, List.length_cons, List.length_nil, List.replicate_succ, List.replicate_zero, List.cons_append, List.nil_append, Nat.reduceAdd, Nat.reduceSub]
  (repeat' (first | with_reducible (first | refine awp_seq ?_ | refine awp_region ?_ | refine awp_block ?_ | refine awp_ret ?_ | refine awp_skip ?_ | refine awpL_nil ?_ | refine thenA_normal ?_ | refine thenA_ret ?_) | (refine awp_cond _ rfl (fun h => ?_) (fun h => ?_) <;> ((try (simp only [whn] at h)); skip)) | ((apply awpL_evl2 rfl); (case h => ((try (intro (hp : (_ : Bool) = true); ((try simp only [Bool.and_eq_true, Bool.not_eq_true', Bool.not_eq_true] at hp); (try simp only [hp, wte]); (try simp only [whn] at hp)))); (first | (apply Evl_k 0 rfl; (first | exact Evl_mv _ rfl | exact Evl_as _ rfl)) | (apply Evl_k 3 rfl; (exact Evl_len _ _ _ _ _ _ HEl.out rfl rfl)) | (apply Evl_x; (case hs => (intro _ _ h; cases h)); (case hx => rfl); (case hrun => (intro w; simp [wtb, AV.val, go_sem]; (try go_bits); rfl)))))); (case hT => ((try simp only [wtn, List.append_eq, List.foldl_cons, List.foldl_nil, List.map_cons, List.map_nil, Nat.reduceAdd, Nat.reduceMul, Nat.reduceSub, ↓reduceIte, Nat.reduceEqDiff]); rfl))) | fail))
  · refine endA_ret _ _ (Res1 rfl (RV.tmp _) (Weak.mk' [] _ (List.Perm.refl _) (VwHs.refl _ _) (VwL.refl _ _))) ?_
    have : l ≠ m := fun e => by subst e; omega
    simp [ev, this]
  refine awp_loopS (S := Nat) (fun k => frm 26 [(0, .sq l.length (ia l)), (1, .sq m.length (ia m)), (12, .x (.int .i64 l.length)), (13, .x (.int .i64 k))]) (fun _ => []) (fun k => k ≤ l.length ∧ l.take k = m.take k) (fun k => l.length - k) 0 (Weak.mk' [] _ (List.Perm.refl _) (VwHs.refl _ _) (by (repeat' (first | exact VwL.nil | (refine VwL.cons ?_ ?_) | exact Vw.refl _ | exact Vw.top _ | fail)))) ⟨Nat.zero_le _, by simp⟩ fun k hk => ?_
  obtain ⟨h1, h2⟩ := hk
  have h2' := Lib.hid h2
  clear h2
  have hlm : l.length = m.length := by omega
  have hlm' := Lib.hid hlm
  simp only [frm, List.replicate_succ, List.replicate_zero, List.foldl_cons, List.foldl_nil, List.set_cons_zero, List.set_cons_succ]
  by_cases hk : k < l.length
  · have hk2 : k < m.length := by omega
    clear hlm
    (repeat' (first | with_reducible (first | refine awp_seq ?_ | refine awp_region ?_ | refine awp_block ?_ | refine awp_ret ?_ | refine awp_skip ?_ | refine awpL_nil ?_ | refine dr_nil ?_ | refine thenA_normal ?_ | refine thenA_ret ?_ | refine inBlockA_normal ?_ | refine inBlockA_ret ?_) | (with_reducible refine awp_drawnQ mixed ?_ ?_; (decide +kernel)) | (refine awp_cond _ rfl (fun h => ?_) (fun h => ?_) <;> ((try (simp only [whn] at h)); first | (exfalso; omega; done) | skip)) | ((first | apply awpL_evl2 rfl | apply dr_evl2 rfl); (case h => ((try (intro (hp : (_ : Bool) = true); ((try simp only [Bool.and_eq_true, Bool.not_eq_true', Bool.not_eq_true] at hp); (try simp only [hp, wte]); (try simp only [whn] at hp)))); (first | (apply Evl_k 0 rfl; (first | exact Evl_mv _ rfl | exact Evl_as _ rfl)) | (apply Evl_k 6 rfl; (exact Evl_load_at _ _ _ _ _ rfl rfl HAgg.out (by first | exact Nat.le_of_ble_eq_true rfl | fail) (by first | exact Nat.le_of_ble_eq_true rfl | fail))) | (apply Evl_k 7 rfl; (exact Evl_index_sq _ _ _ _ _ _ _ _ _ _ rfl rfl rfl HEl.out rfl (by first | omega | fail) (by simp; first | omega | fail))) | (apply Evl_x; (case hs => (intro _ _ h; cases h)); (case hx => rfl); (case hrun => (intro w; simp [wtb, AV.val, go_sem]; (try go_bits); rfl)))))); (case hT => ((try simp (disch := assumption) only [wtn, ia_drop, List.append_eq, List.foldl_cons, List.foldl_nil, List.map_cons, List.map_nil, Nat.reduceAdd, Nat.reduceMul, Nat.reduceSub, ↓reduceIte, Nat.reduceEqDiff]); rfl))) | fail))
    · refine endA_ret _ _ (Res1 rfl (RV.tmp _) (Weak.mk' [] _ (List.Perm.refl _) (VwHs.refl _ _) (VwL.refl _ _))) ?_
      refine ⟨?_, rfl⟩
      have : l ≠ m := fun e => by subst e; exact h rfl
      simp [ev, this]
    · refine ⟨k + 1, by omega, ⟨by omega, ?_⟩, (Weak.mk' [] _ (List.Perm.refl _) (VwHs.refl _ _) (by (repeat' (first | exact VwL.nil | (refine VwL.cons ?_ ?_) | exact Vw.refl _ | exact Vw.top _ | fail))))⟩
      rw [take_snoc' l k hk, take_snoc' m k hk2, h2'.out, h]
  · clear hlm
    (repeat' (first | with_reducible (first | refine awp_seq ?_ | refine awp_region ?_ | refine awp_ret ?_ | refine awp_exit ?_ | refine awpL_nil ?_ | refine thenA_normal ?_ | refine thenA_exit ?_ | refine inBlockA_eq ?_) | (refine awp_cond _ rfl (fun h => ?_) (fun h => ?_) <;> ((try (simp only [whn] at h)); first | (exfalso; omega; done) | skip)) | ((apply awpL_evl2 rfl); (case h => ((try (intro (hp : (_ : Bool) = true); ((try simp only [Bool.and_eq_true, Bool.not_eq_true', Bool.not_eq_true] at hp); (try simp only [hp, wte]); (try simp only [whn] at hp)))); (first | (apply Evl_k 0 rfl; (exact Evl_as _ rfl)) | (apply Evl_x; (case hs => (intro _ _ h; cases h)); (case hx => rfl); (case hrun => (intro w; simp [wtb, AV.val, go_sem]; (try go_bits); rfl)))))); (case hT => ((try simp (disch := omega) only [wtn, ia_drop, List.append_eq, List.foldl_cons, List.foldl_nil, List.map_cons, List.map_nil, Nat.reduceAdd, Nat.reduceMul, Nat.reduceSub, ↓reduceIte, Nat.reduceEqDiff]); rfl))) | fail))
    refine endA_ret _ _ (Res1 rfl (RV.tmp _) (Weak.mk' [] _ (List.Perm.refl _) (VwHs.refl _ _) (VwL.refl _ _))) ?_
    refine ⟨?_, rfl⟩
    have e := h2'.out
    rw [List.take_of_length_le (by omega), List.take_of_length_le (by have := hlm'.out; omega)] at e
    simp [ev, e]
theorem nds_le (l : List JA) (i : Int) : (nds l i).length ≤ l.length := by
  unfold nds
  split
  · exact ndsTo_le ..
  · exact Nat.zero_le _
set_option maxRecDepth 100000 in
set_option maxHeartbeats 8000000 in
theorem free_spec (l : List JA) (d : List Int) (i : Nat) (hl : l.length ≤ 1000000) (hm : ∀ j ∈ l, j.needs.length ≤ 8796093022208) (hd : d.length ≤ 1000000) : Spec Try.prog 20 [] [.sq l.length (ja l), .sq d.length (ia d), .x (.int .i64 i)] (fun r H' => r = .x (.bool ((nds l i).all (d.contains ·))) ∧ H' = []) := by
  refine Spec_of Try.func20 rfl ?_
  simp only [Try.ntmps20, List.length_cons, List.length_nil, List.replicate_succ, List.replicate_zero, List.cons_append, List.nil_append, Nat.reduceAdd, Nat.reduceSub]
  (repeat' (first | with_reducible (first | refine awp_seq ?_ | refine awp_region ?_ | refine awp_block ?_ | refine awpL_nil ?_ | refine thenA_normal ?_) | ((apply awpL_evl2 rfl); (case h => ((try (intro (hp : (_ : Bool) = true); ((try simp only [Bool.and_eq_true, Bool.not_eq_true', Bool.not_eq_true] at hp); (try simp only [hp, wte]); (try simp only [whn] at hp)))); (first | (apply Evl_k 0 rfl; (first | exact Evl_mv _ rfl | exact Evl_as _ rfl)) | (apply Evl_k 11 rfl; (exact Evl_call 27 Try.f27 _ _ rfl rfl Try.func27 (by decide) rfl (VwL.refl _ _) (rneeds_spec l _ hl hm)))))); (case hT => ((try simp only [wtn, List.append_eq, List.foldl_cons, List.foldl_nil, List.map_cons, List.map_nil, Nat.reduceAdd, Nat.reduceMul, Nat.reduceSub, ↓reduceIte, Nat.reduceEqDiff]); rfl))) | fail))
  have hn := nds_le l i
  refine awp_loopS (S := Nat) (fun k => frm 25 [(1, .sq d.length (ia d)), (7, .sq (nds l i).length (ia (nds l i))), (8, .x (.int .i64 k))]) (fun _ => []) (fun k => k ≤ (nds l i).length ∧ ∀ x ∈ (nds l i).take k, x ∈ d) (fun k => (nds l i).length - k) 0 (Weak.mk' [] _ (List.Perm.refl _) (VwHs.refl _ _) (by (repeat' (first | exact VwL.nil | (refine VwL.cons ?_ ?_) | exact Vw.refl _ | exact Vw.top _ | fail)))) ⟨Nat.zero_le _, by simp⟩ fun k hk => ?_
  obtain ⟨h1, h2⟩ := hk
  have h2' := Lib.hid h2
  clear h2
  simp only [frm, List.replicate_succ, List.replicate_zero, List.foldl_cons, List.foldl_nil, List.set_cons_zero, List.set_cons_succ]
  (repeat' (first | with_reducible (first | refine awp_seq ?_ | refine awp_region ?_ | refine awp_block ?_ | refine awp_ret ?_ | refine awp_skip ?_ | refine awp_exit ?_ | refine awpL_nil ?_ | refine thenA_normal ?_ | refine thenA_exit ?_ | refine thenA_ret ?_ | refine inBlockA_eq ?_ | refine inBlockA_normal ?_ | refine inBlockA_ret ?_) | (refine awp_cond _ rfl (fun h => ?_) (fun h => ?_) <;> ((try (simp only [whn] at h)); skip)) | ((apply awpL_evl2 rfl); (case h => ((try (intro (hp : (_ : Bool) = true); ((try simp only [Bool.and_eq_true, Bool.not_eq_true', Bool.not_eq_true] at hp); (try simp only [hp, wte]); (try simp only [whn] at hp)))); (first | (apply Evl_k 0 rfl; (first | exact Evl_mv _ rfl | exact Evl_as _ rfl)) | (apply Evl_k 3 rfl; (exact Evl_len _ _ _ _ _ _ HEl.out rfl rfl)) | (apply Evl_k 6 rfl; (exact Evl_load_at _ _ _ _ _ rfl rfl HAgg.out (by first | exact Nat.le_of_ble_eq_true rfl | fail) (by first | exact Nat.le_of_ble_eq_true rfl | fail))) | (apply Evl_k 7 rfl; (exact Evl_index_sq _ _ _ _ _ _ _ _ _ _ rfl rfl rfl HEl.out rfl (by first | omega | fail) (by simp; first | omega | fail))) | (apply Evl_k 11 rfl; (exact Evl_call 19 Try.f19 _ _ rfl rfl Try.func19 (by decide) rfl (VwL.refl _ _) (has_spec d _ hd))) | (apply Evl_x; (case hs => (intro _ _ h; cases h)); (case hx => rfl); (case hrun => (intro w; simp [wtb, AV.val, go_sem]; (try go_bits); rfl)))))); (case hT => ((try simp (disch := assumption) only [wtn, ia_drop, List.append_eq, List.foldl_cons, List.foldl_nil, List.map_cons, List.map_nil, Nat.reduceAdd, Nat.reduceMul, Nat.reduceSub, ↓reduceIte, Nat.reduceEqDiff]); rfl))) | fail))
  · refine endA_ret _ _ (Res1 rfl (RV.tmp _) (Weak.mk' [] _ (List.Perm.refl _) (VwHs.refl _ _) (VwL.refl _ _))) ?_
    refine ⟨?_, rfl⟩
    have : (nds l i).all (d.contains ·) = false := by
      rw [List.all_eq_false]; exact ⟨_, List.getElem_mem (by assumption), by simpa using h⟩
    rw [this]; rfl
  · refine ⟨k + 1, by omega, ⟨by omega, ?_⟩, (Weak.mk' [] _ (List.Perm.refl _) (VwHs.refl _ _) (by (repeat' (first | exact VwL.nil | (refine VwL.cons ?_ ?_) | exact Vw.refl _ | exact Vw.top _ | fail))))⟩
    rw [take_snoc' _ k (by assumption)]; intro x hx; simp only [List.mem_append, List.mem_singleton] at hx
    rcases hx with hx | rfl
    · exact h2'.out x hx
    · exact h
  · refine endA_ret _ _ (Res1 rfl (RV.tmp _) (Weak.mk' [] _ (List.Perm.refl _) (VwHs.refl _ _) (VwL.refl _ _))) ?_
    refine ⟨?_, rfl⟩
    have e := h2'.out
    rw [List.take_of_length_le (by omega)] at e
    have : (nds l i).all (d.contains ·) = true := by
      rw [List.all_eq_true]; intro x hx; simpa using e x hx
    rw [this]; rfl
/-- A row given back, and that row, whole. -/
def RowIs (l : List Int) (r : AV) (H' : List Hp) : Prop := ∃ ad cap, r = .x (.slice ad l.length cap) ∧ H' = [.row ad l.length cap 3 1 (ia l)]
theorem rdy_eq (l : List JA) (d : List Int) (i : Nat) : rdy l d i = (!decide ((i : Int) ∈ d) && (nds l i).all (d.contains ·)) := by
  unfold rdy; simp
set_option maxRecDepth 100000 in
set_option maxHeartbeats 8000000 in
theorem rorder_spec (l : List JA) (hl : l.length ≤ 1000000) (hm : ∀ j ∈ l, j.needs.length ≤ 8796093022208) : Spec Try.prog 10 [] [.sq l.length (ja l)] (RowIs (ord l)) := by
  refine Spec_of Try.func10 rfl ?_
  simp only [Try.ntmps10, List.length_cons, List.length_nil, List.replicate_succ, List.replicate_zero, List.cons_append, List.nil_append, Nat.reduceAdd, Nat.reduceSub]
  (repeat' (first | with_reducible (first | refine awp_seq ?_ | refine awp_region ?_ | refine awp_block ?_ | refine awpL_nil ?_ | refine thenA_normal ?_) | ((apply awpL_evl2 rfl); (case h => ((try (intro (hp : (_ : Bool) = true); ((try simp only [Bool.and_eq_true, Bool.not_eq_true', Bool.not_eq_true] at hp); (try simp only [hp, wte]); (try simp only [whn] at hp)))); ((apply Evl_k 0 rfl; (exact Evl_as _ rfl))))); (case hT => ((try simp only [wtn, List.append_eq, List.foldl_cons, List.foldl_nil, List.map_cons, List.map_nil, Nat.reduceAdd, Nat.reduceMul, Nat.reduceSub, ↓reduceIte, Nat.reduceEqDiff]); rfl))) | fail))
  refine awp_nilrow 3 1 ?_
  refine awp_loopS (S := Nat × List Int × Option Addr × Nat) (fun s => frm 26 [(0, .sq l.length (ja l)), (3, .x (.slice s.2.2.1 s.2.1.length s.2.2.2)), (4, .x (.int .i64 s.1))]) (fun s => [.row s.2.2.1 s.2.1.length s.2.2.2 3 1 (ia s.2.1)]) (fun s => s.1 ≤ l.length ∧ Done l s.2.1 ∧ ∀ k, k < s.1 → rdy l s.2.1 k = false) (fun s => (l.length - s.2.1.length) * (l.length + 1) + (l.length - s.1)) (0, [], none, 0) ?a ⟨Nat.zero_le _, Done.nil l, fun k hk => by simp at hk⟩ fun s hs => ?_
  case a => exact (Weak.mk' [] _ (List.Perm.refl _) (VwHs.refl _ _) (by (repeat' (first | exact VwL.nil | (refine VwL.cons ?_ ?_) | exact Vw.refl _ | exact Vw.top _ | fail))))
  obtain ⟨i, d, ad, cap⟩ := s
  obtain ⟨h1, hd, hr⟩ := hs
  simp only at h1 hd hr
  have hle := hd.le
  have hd' := Lib.hid hd
  have hr' := Lib.hid hr
  clear hd hr
  simp only [frm, List.replicate_succ, List.replicate_zero, List.foldl_cons, List.foldl_nil, List.set_cons_zero, List.set_cons_succ]
  (repeat' (first | with_reducible (first | refine awp_seq ?_ | refine awp_region ?_ | refine awp_block ?_ | refine awp_ret ?_ | refine awp_skip ?_ | refine awp_exit ?_ | refine awpL_nil ?_ | refine thenA_normal ?_ | refine thenA_exit ?_ | refine inBlockA_eq ?_ | refine inBlockA_normal ?_) | (refine awp_cond _ rfl (fun h => ?_) (fun h => ?_) <;> ((try (simp only [whn] at h)); skip)) | ((first | apply awpL_evl2 rfl | apply awpL_g2 _ _ rfl rfl rfl); (case h => ((try (intro (hp : (_ : Bool) = true); ((try simp only [Bool.and_eq_true, Bool.not_eq_true', Bool.not_eq_true] at hp); (try simp only [hp, wte]); (try simp only [whn] at hp)))); (first | (apply Evl_k 0 rfl; (first | exact Evl_mv _ rfl | exact Evl_as _ rfl)) | (apply Evl_k 1 rfl; (exact Evl_and _ _ _ _ _ rfl rfl rfl rfl)) | (apply Evl_k 3 rfl; (exact Evl_len _ _ _ _ _ _ HEl.out rfl rfl)) | (apply Evl_k 11 rfl; (first | exact Evl_callL 19 Try.f19 _ _ rfl rfl Try.func19 (by decide) rfl (by (repeat' (first | exact VwL.nil | (refine VwL.cons ?_ ?_) | exact Vw.refl _ | exact Vw.row (List.Mem.head _) (VwL.refl _ _) | fail)); done) (has_spec d _ (by omega)) | exact Evl_callL 20 Try.f20 _ _ rfl rfl Try.func20 (by decide) rfl (by (repeat' (first | exact VwL.nil | (refine VwL.cons ?_ ?_) | exact Vw.refl _ | exact Vw.row (List.Mem.head _) (VwL.refl _ _) | fail)); done) (free_spec l d _ hl hm (by omega)))) | (apply Evl_x; (case hs => (intro _ _ h; cases h)); (case hx => rfl); (case hrun => (intro w; simp [wtb, AV.val, go_sem]; (try go_bits); rfl)))))); (case hT => ((try simp only [wtn, List.append_eq, List.foldl_cons, List.foldl_nil, List.map_cons, List.map_nil, Nat.reduceAdd, Nat.reduceMul, Nat.reduceSub, ↓reduceIte, Nat.reduceEqDiff]); rfl))) | (refine awpL_cons rfl ?_; ((first | (refine Stp_k 13 rfl ?_; ((refine Stp_append _ _ _ _ _ _ _ _ _ _ _ _ _ _ rfl rfl FRow.out (Src.row _ rfl FRow.out) HElem.out (by first | rfl | fail) (fits _ _ (by omega) (by decide)) (fun ad cap => ?_)))) | (refine Stp_k 17 rfl ?_; ((refine Stp_buildSlice _ _ _ _ _ _ _ _ rfl HElem.out (by first | rfl | fail) rfl (by decide) rfl (fun b => ?_))))); apply awpL_cong; (case hT => ((try simp only [wtn, List.append_eq, List.foldl_cons, List.foldl_nil, List.map_cons, List.map_nil, Nat.reduceAdd, Nat.reduceMul, Nat.reduceSub, ↓reduceIte, Nat.reduceEqDiff]); rfl)); (case hH => ((try simp only [wtn, List.append_eq, List.foldl_cons, List.foldl_nil, List.map_cons, List.map_nil, Nat.reduceAdd, Nat.reduceMul, Nat.reduceSub, ↓reduceIte, Nat.reduceEqDiff]); rfl)))) | fail))
  · have hrd : rdy l d i = true := by rw [rdy_eq]; simp [h.1]; simpa using h.2
    have hd2 := hd'.out.snoc (by assumption) hrd hr'.out
    have hle2 := hd2.le
    simp only [List.length_append, List.length_cons, List.length_nil] at hle2
    refine ⟨(0, d ++ [(i : Int)], ad, cap), ?_, ⟨Nat.zero_le _, hd2, fun k hk => absurd hk (Nat.not_lt_zero k)⟩, ?_⟩
    · simp only [List.length_append, List.length_cons, List.length_nil]
      obtain ⟨q, hq⟩ : ∃ q, l.length - d.length = q + 1 := ⟨l.length - d.length - 1, by omega⟩
      rw [hq, show l.length - (d.length + (0 + 1)) = q by omega, Nat.succ_mul]
      omega
    · simp only [ia_app, List.length_append, List.length_cons, List.length_nil]
      exact (Weak.mk' [_] [_] (List.Perm.refl _) (VwHs.refl _ _) (by (repeat' (first | exact VwL.nil | (refine VwL.cons ?_ ?_) | exact Vw.refl _ | exact Vw.top _ | fail))))
  · have hrd : rdy l d i = false := by
      rw [rdy_eq]
      rcases h with h | h
      · simp [h]
      · rw [h]; simp
    refine ⟨(i + 1, d, ad, cap), by simp only; omega, ⟨by simp only; omega, hd'.out, fun k hk => ?_⟩, (Weak.mk' [] _ (List.Perm.refl _) (VwHs.refl _ _) (by (repeat' (first | exact VwL.nil | (refine VwL.cons ?_ ?_) | exact Vw.refl _ | exact Vw.top _ | fail))))⟩
    simp only at hk
    by_cases e : k = i
    · rw [e]; exact hrd
    · exact hr'.out k (by omega)
  · have e : d = ord l := hd'.out.end_ fun k hk => hr'.out k (by omega)
    refine endA_ret _ _ (Res1 rfl (RV.tmp _) (Weak.mk' [] _ (List.Perm.refl _) (VwHs.refl _ _) (VwL.refl _ _))) ?_
    rw [← e]
    exact ⟨ad, cap, rfl, rfl⟩
end Go.Proofs.Ytdcjhndcklofoaa
/- The graph: all needs. -/
namespace Go.Proofs.Ytdcjhndcklofoaa
open Go.RowKit
set_option linter.unusedSimpArgs false
set_option linter.unusedVariables false
/-- The needs of all jobs, those from k on not yet laid. -/
def naTo (l : List JA) (k : Nat) : List AV := (List.range l.length).map fun (j : Nat) => if j < k then .sq (nds l (j : Int)).length (ia (nds l (j : Int))) else .x (.slice none 0 0)
def na (l : List JA) : List AV := (List.range l.length).map fun (j : Nat) => .sq (nds l (j : Int)).length (ia (nds l (j : Int)))
@[simp] theorem naTo_len (l : List JA) (k : Nat) : (naTo l k).length = l.length := by simp [naTo]
@[simp] theorem na_len (l : List JA) : (na l).length = l.length := by simp [na]
theorem naTo_zero (l : List JA) : List.replicate l.length (.x (.slice none 0 0)) = naTo l 0 := by
  unfold naTo
  apply List.ext_getElem?
  intro j
  by_cases h : j < l.length <;> simp [List.getElem?_replicate, h]
theorem naTo_all (l : List JA) : naTo l l.length = na l := by
  unfold naTo na
  apply List.map_congr_left
  intro j hj
  rw [if_pos (List.mem_range.1 hj)]
theorem spl_na (l : List JA) (k : Nat) (h : k < l.length) : spl (naTo l k) k [.sq (nds l k).length (ia (nds l k))] = naTo l (k + 1) := by
  unfold spl
  have hs := List.set_eq_take_append_cons_drop (l := naTo l k) (i := k) (a := AV.sq (nds l k).length (ia (nds l k)))
  rw [if_pos (by simpa using h)] at hs
  rw [List.length_singleton, List.append_assoc, List.singleton_append, ← hs]
  apply List.ext_getElem?
  intro j
  rw [List.getElem?_set]
  unfold naTo
  by_cases hj : k = j
  · subst hj; simp [h]
  · by_cases hj2 : j < l.length
    · simp only [if_neg hj, List.getElem?_map, List.getElem?_range hj2, Option.map_some]
      by_cases h3 : j < k
      · rw [if_pos h3, if_pos (by omega)]
      · rw [if_neg h3, if_neg (by omega)]
    · rw [if_neg hj, List.getElem?_eq_none (by simp; omega), List.getElem?_eq_none (by simp; omega)]
set_option maxRecDepth 100000 in
set_option maxHeartbeats 8000000 in
theorem all_spec (l : List JA) (hl : l.length ≤ 1000000) (hm : ∀ j ∈ l, j.needs.length ≤ 8796093022208) : Spec Try.prog 18 [] [.sq l.length (ja l)] (fun r H' => r = .sq l.length (na l) ∧ H' = []) := by
  refine Spec_of Try.func18 rfl ?_
  simp only [Try.ntmps18, List.length_cons, List.length_nil, List.replicate_succ, List.replicate_zero, List.cons_append, List.nil_append, Nat.reduceAdd, Nat.reduceSub]
  (repeat' (first | with_reducible (first | refine awp_seq ?_ | refine awp_region ?_ | refine awp_block ?_ | refine awpL_nil ?_ | refine thenA_normal ?_) | ((apply awpL_evl2 rfl); (case h => ((try (intro (hp : (_ : Bool) = true); ((try simp only [Bool.and_eq_true, Bool.not_eq_true', Bool.not_eq_true] at hp); (try simp only [hp, wte]); (try simp only [whn] at hp)))); (first | (apply Evl_k 0 rfl; (first | exact Evl_mv _ rfl | exact Evl_as _ rfl)) | (apply Evl_k 3 rfl; (exact Evl_len _ _ _ _ _ _ HEl.out rfl rfl))))); (case hT => ((try simp (disch := omega) only [wtn, naTo_zero, List.append_eq, List.foldl_cons, List.foldl_nil, List.map_cons, List.map_nil, Nat.reduceAdd, Nat.reduceMul, Nat.reduceSub, ↓reduceIte, Nat.reduceEqDiff]); rfl))) | (refine awpL_cons rfl ?_; (((refine Stp_k 18 rfl ?_; ((refine Stp_make _ _ _ _ _ _ _ _ l.length l.length rfl HElem.out rfl rfl rfl rfl (Nat.le_refl _) (fits _ _ (by omega) (by decide)) (fun b => ?_))))); apply awpL_cong; (case hT => ((try simp (disch := omega) only [wtn, naTo_zero, List.append_eq, List.foldl_cons, List.foldl_nil, List.map_cons, List.map_nil, Nat.reduceAdd, Nat.reduceMul, Nat.reduceSub, ↓reduceIte, Nat.reduceEqDiff]); rfl)); (case hH => ((try simp (disch := omega) only [wtn, naTo_zero, List.append_eq, List.foldl_cons, List.foldl_nil, List.map_cons, List.map_nil, Nat.reduceAdd, Nat.reduceMul, Nat.reduceSub, ↓reduceIte, Nat.reduceEqDiff]); rfl)))) | fail))
  refine awp_loopS (S := Nat) (fun k => frm 21 [(0, .sq l.length (ja l)), (3, .x (.slice (some ⟨b, 0, none⟩) l.length l.length)), (9, .x (.int .i64 l.length)), (10, .x (.int .i64 k))]) (fun k => [.row (some ⟨b, 0, none⟩) l.length l.length 22 1 (naTo l k)]) (fun k => k ≤ l.length) (fun k => l.length - k) 0 (Weak.mk' [] _ (List.Perm.refl _) (VwHs.refl _ _) (by (repeat' (first | exact VwL.nil | (refine VwL.cons ?_ ?_) | exact Vw.refl _ | exact Vw.top _ | fail)))) (Nat.zero_le _) fun k hk => ?_
  simp only [frm, List.replicate_succ, List.replicate_zero, List.foldl_cons, List.foldl_nil, List.set_cons_zero, List.set_cons_succ]
  (repeat' (first | with_reducible (first | refine awp_seq ?_ | refine awp_region ?_ | refine awp_block ?_ | refine awp_ret ?_ | refine awp_skip ?_ | refine awp_exit ?_ | refine awpL_nil ?_ | refine thenA_normal ?_ | refine thenA_exit ?_ | refine inBlockA_eq ?_ | refine inBlockA_normal ?_) | (refine awp_cond _ rfl (fun h => ?_) (fun h => ?_) <;> ((try (simp only [whn] at h)); skip)) | ((apply awpL_evl2 rfl); (case h => ((try (intro (hp : (_ : Bool) = true); ((try simp only [Bool.and_eq_true, Bool.not_eq_true', Bool.not_eq_true] at hp); (try simp only [hp, wte]); (try simp only [whn] at hp)))); (first | (apply Evl_k 0 rfl; (first | exact Evl_mv _ rfl | exact Evl_as _ rfl)) | (apply Evl_k 7 rfl; (exact Evl_index_own _ _ _ _ _ _ _ _ _ _ _ _ rfl rfl rfl HEl.out rfl (by first | omega | fail))) | (apply Evl_k 11 rfl; (exact Evl_call 32 Try.f32 _ _ rfl rfl Try.func32 (by decide) rfl (VwL.refl _ _) (needs_spec l _ hl hm))) | (apply Evl_x; (case hs => (intro _ _ h; cases h)); (case hx => rfl); (case hrun => (intro w; simp [wtb, AV.val, go_sem]; (try go_bits); rfl)))))); (case hT => ((try simp (disch := omega) only [wtn, spl_na, List.append_eq, List.foldl_cons, List.foldl_nil, List.map_cons, List.map_nil, Nat.reduceAdd, Nat.reduceMul, Nat.reduceSub, ↓reduceIte, Nat.reduceEqDiff]); rfl))) | (refine awpL_cons rfl ?_; (((refine Stp_k 16 rfl ?_; ((refine Stp_store_row _ _ _ _ _ _ _ _ _ _ _ rfl rfl FRow.out HSize.out (by first | rfl | fail) (by first | (simp [wlq]; omega) | fail) ?_)))); apply awpL_cong; (case hT => ((try simp (disch := omega) only [wtn, spl_na, List.append_eq, List.foldl_cons, List.foldl_nil, List.map_cons, List.map_nil, Nat.reduceAdd, Nat.reduceMul, Nat.reduceSub, ↓reduceIte, Nat.reduceEqDiff]); rfl)); (case hH => ((try simp (disch := assumption) only [wtn, spl_na, List.append_eq, List.foldl_cons, List.foldl_nil, List.map_cons, List.map_nil, Nat.reduceAdd, Nat.reduceMul, Nat.reduceSub, ↓reduceIte, Nat.reduceEqDiff]); rfl)))) | fail))
  · exact ⟨k + 1, by omega, by omega, (Weak.mk' [] _ (List.Perm.refl _) (VwHs.refl _ _) (by (repeat' (first | exact VwL.nil | (refine VwL.cons ?_ ?_) | exact Vw.refl _ | exact Vw.top _ | fail))))⟩
  · obtain rfl : k = l.length := by omega
    rw [naTo_all]
    refine endA_ret _ _ (Res1 rfl (RV.tmp _) (Weak.mk' [_] [] (List.Perm.refl _) VwHs.nil (VwL.cons (Vw.row (List.Mem.head _) (VwL.refl _ _)) VwL.nil))) ?_
    exact ⟨rfl, rfl⟩
end Go.Proofs.Ytdcjhndcklofoaa
