import Derived.Test.YtfaljkenmbbbaaaDoorW7
import Derived.Test.YtfaljkenmbbbaaaDoorW0
import Derived.Test.YtfaljkenmbbbaaaDoorRows
import Derived.Lib.AppendZeros
/- The mill: a job; that it ends, and that its texts are short. -/
namespace Go.Proofs.YtfaljkenmbbbaaaDoor
open Go.RowKit
set_option linter.unusedSimpArgs false
set_option linter.unusedVariables false
def runs : List (List UInt8) := [[120], [114, 117, 110, 32, 105, 116], [97, 32, 34, 98, 34, 10], []]
theorem pick_runs {v : Nat} (h : v < 4) : (List.drop v [.x (.string ⟨#[120]⟩), .x (.string ⟨#[114, 117, 110, 32, 105, 116]⟩), .x (.string ⟨#[97, 32, 34, 98, 34, 10]⟩), .x (.string ⟨#[]⟩)]).getD 0 AV.top = .x (.string (bs (runs.getD v []))) := pick_sa runs v h
theorem pick_pats {v : Nat} (h : v < 7) : (List.drop v (sa pats)).getD 0 AV.top = .x (.string (bs (pats.getD v []))) := pick_sa pats v h
@[simp] theorem pats_len : pats.length = 7 := rfl
def sigs : List Int := [15, 2, 1]
theorem pick_sigs {v : Nat} (h : v < 3) : (List.drop v [.x (.int .i64 15), .x (.int .i64 2), .x (.int .i64 1)]).getD 0 AV.top = .x (.int .i64 (sigs.getD v 0)) := by
  match v, h with
  | 0, _ => rfl
  | 1, _ => rfl
  | 2, _ => rfl
def envs : List (List UInt8 × List UInt8) := [([80], [49]), ([81], [0, 32, 113])]
theorem env_eq {v : Nat} (h : v ≤ 2) : AV.sq (v - 0) (List.take ((v - 0) * 2) [.x (.string ⟨#[80]⟩), .x (.string ⟨#[49]⟩), .x (.string ⟨#[81]⟩), .x (.string ⟨#[0, 32, 113]⟩)]) = .sq (envs.take v).length (ea (envs.take v)) := by
  match v, h with
  | 0, _ => rfl
  | 1, _ => rfl
  | 2, _ => rfl
def EnvOk (env : List (List UInt8 × List UInt8)) : Prop := env.length ≤ 2 ∧ ∀ p ∈ env, p.1.length ≤ 8 ∧ p.2.length ≤ 8
theorem envs_ok (v : Nat) : EnvOk (envs.take v) := by
  refine ⟨by simp [envs]; omega, fun p hp => ?_⟩
  have := List.mem_of_mem_take hp
  simp only [envs, List.mem_cons, List.not_mem_nil, or_false] at this
  rcases this with rfl | rfl <;> simp
set_option maxRecDepth 100000 in
set_option maxHeartbeats 8000000 in
theorem mjob_w (bd : Nat) (l : List Int) (k : Nat) (hd : DK l) (hk : k ≤ l.length) (name : List UInt8) (others : List (List UInt8)) (hn : name.length ≤ 8) (ho : others.length ≤ 4) (hos : ∀ s ∈ others, s.length ≤ 8) :
    Spec Tryd.prog 35 [.box bd [.sq l.length (ia l), .x (.int .i64 k)]] [.x (.pointer (some ⟨bd, 0, none⟩)), .x (.string (bs name)), .sq others.length (sa others)] (fun r H' => ∃ (j : JF) (k' : Nat), r = .agg j.cells ∧ H' = [.box bd [.sq l.length (ia l), .x (.int .i64 k')]] ∧ k' ≤ l.length ∧ JSmall j) := by
  have hos' := Lib.hid hos
  clear hos
  refine Spec_of Tryd.func35 rfl ?_
  simp only [Tryd.ntmps35, List.length_cons, List.length_nil, List.replicate_succ, List.replicate_zero, List.cons_append, List.nil_append, Nat.reduceAdd, Nat.reduceSub]
  (repeat' (first | with_reducible (first | refine awp_seq ?_ | refine awp_region ?_ | refine awpL_nil ?_ | refine thenA_normal ?_) | (refine awpL_cons rfl ?_; (((refine Stp_k 14 rfl ?_; ((refine Stp_alloc _ _ rfl HZero.out rfl (fun b => ?_))))); apply awpL_cong; (case hT => ((try simp only [wtn, List.append_eq, List.foldl_cons, List.foldl_nil, List.map_cons, List.map_nil, Nat.reduceAdd, Nat.reduceMul, Nat.reduceSub, ↓reduceIte, Nat.reduceEqDiff]); rfl)); (case hH => ((try simp only [wtn, List.append_eq, List.foldl_cons, List.foldl_nil, List.map_cons, List.map_nil, Nat.reduceAdd, Nat.reduceMul, Nat.reduceSub, ↓reduceIte, Nat.reduceEqDiff]); rfl)))) | fail))
  refine awp_mix (B := [_]) (R := [_]) mixed [0, 1, 2, 6, 8, 11, 14, 16, 3, 4, 5, 7, 9, 10, 12, 13, 15, 17, 18, 19] [3, 7, 9, 12, 15, 17] [21] (some 20) _ 1 (List.Perm.refl _) (by decide +kernel) rfl (mix_alloc rfl rfl rfl HZero.out rfl rfl) (by decide) ?_
  (repeat' (first | (apply dm_quiet rfl rfl; (case h => (intro H1; (try simp only [List.cons_append, List.nil_append]); (first | (apply Evl_k 0 rfl; (exact Evl_mv _ rfl)) | (apply Evl_k 6 rfl; (exact Evl_load_at _ _ _ _ _ rfl rfl HAgg.out (by first | (simp [wlq]; omega) | fail) (by first | (simp [wlq]; omega) | fail))) | (apply Evl_k 7 rfl; (exact Evl_index_sq _ _ _ _ _ _ _ _ _ _ rfl rfl rfl HEl.out rfl (by first | omega | fail) (by simp; first | done | fail))) | (apply Evl_k 10 rfl; (exact Evl_build1 _ _ _ _ rfl HPl.out (by decide) rfl (by simp [wtb, AV.one, Value.oneCell']))) | (apply Evl_k 17 rfl; (exact Evl_rowall _ _ _ _ _ _ rfl HElem.out rfl (by first | rfl | fail) rfl rfl (by decide))) | (apply Evl_x; (case hs => (intro _ _ h; cases h)); (case hx => rfl); (case hrun => (intro w; simp [wtb, AV.val, go_sem]; (try go_bits); rfl)))))); (case hT => ((try simp (disch := assumption) only [wtn, pick_runs, List.append_eq, List.foldl_cons, List.foldl_nil, List.map_cons, List.map_nil, Nat.reduceAdd, Nat.reduceMul, Nat.reduceSub, ↓reduceIte, Nat.reduceEqDiff]); rfl))) | (apply dm_loud rfl rfl; ((refine Stp_k 11 rfl ?_; (first | (refine Stp_call 19 Tryd.f19 [_] _ _ _ rfl rfl Tryd.func19 (by decide) rfl (List.Perm.refl _) (VwL.refl _ _) (next_w _ l k 4 hd hk (by omega) (by omega)) ?_; rintro _ _ ⟨v1, k1, rfl, rfl, hv1, hk1⟩) | (refine Stp_call 34 Tryd.f34 [_] _ _ _ rfl rfl Tryd.func34 (by decide) rfl (List.Perm.refl _) (VwL.refl _ _) (range_w _ l k1 1 3 hd hk1 (by omega) (by omega)) ?_; rintro _ _ ⟨v2, k2, rfl, rfl, hv2, hv2', hk2⟩) | (refine Stp_call 19 Tryd.f19 [_] _ _ _ rfl rfl Tryd.func19 (by decide) rfl (List.Perm.refl _) (VwL.refl _ _) (next_w _ l k2 6 hd hk2 (by omega) (by omega)) ?_; rintro _ _ ⟨v3, k3, rfl, rfl, hv3, hk3⟩) | (refine Stp_call 19 Tryd.f19 [_] _ _ _ rfl rfl Tryd.func19 (by decide) rfl (List.Perm.refl _) (VwL.refl _ _) (next_w _ l k3 20 hd hk3 (by omega) (by omega)) ?_; rintro _ _ ⟨v4, k4, rfl, rfl, hv4, hk4⟩) | (refine Stp_call 34 Tryd.f34 [_] _ _ _ rfl rfl Tryd.func34 (by decide) rfl (List.Perm.refl _) (VwL.refl _ _) (range_w _ l k4 1 4 hd hk4 (by omega) (by omega)) ?_; rintro _ _ ⟨v5, k5, rfl, rfl, hv5, hv5', hk5⟩) | (refine Stp_call 34 Tryd.f34 [_] _ _ _ rfl rfl Tryd.func34 (by decide) rfl (List.Perm.refl _) (VwL.refl _ _) (range_w _ l k5 1 30 hd hk5 (by omega) (by omega)) ?_; rintro _ _ ⟨v6, k6, rfl, rfl, hv6, hv6', hk6⟩)))); refine ⟨_, rfl, ?_⟩; apply dm_cong; (case hT => ((try simp (disch := omega) only [wtn, pick_runs, List.append_eq, List.foldl_cons, List.foldl_nil, List.map_cons, List.map_nil, Nat.reduceAdd, Nat.reduceMul, Nat.reduceSub, ↓reduceIte, Nat.reduceEqDiff]); rfl)); (case hH => ((try simp (disch := omega) only [wtn, pick_runs, List.append_eq, List.foldl_cons, List.foldl_nil, List.map_cons, List.map_nil, Nat.reduceAdd, Nat.reduceMul, Nat.reduceSub, ↓reduceIte, Nat.reduceEqDiff]); rfl))) | fail))
  (first | (refine dm_end_alloc rfl (fun b => ?_)) | fail); (apply awpA_cong; (case hT => ((try simp only [wtn, List.append_eq, List.foldl_cons, List.foldl_nil, List.map_cons, List.map_nil, Nat.reduceAdd, Nat.reduceMul, Nat.reduceSub, ↓reduceIte, Nat.reduceEqDiff]); rfl)); (case hH => (simp only [List.cons_append, List.nil_append]; rfl))); (refine awpA_1 21 (by decide +kernel) rfl rfl ?_; (first | (((refine Stp_k 16 rfl ?_; ((refine Stp_store _ _ _ _ _ _ _ rfl rfl FBox.out HSize.out (by first | rfl | fail) (by first | exact Nat.le_of_ble_eq_true rfl | fail) ?_)))); apply awpA_cong; (case hT => ((try simp only [wtn, List.append_eq, List.foldl_cons, List.foldl_nil, List.map_cons, List.map_nil, Nat.reduceAdd, Nat.reduceMul, Nat.reduceSub, ↓reduceIte, Nat.reduceEqDiff]); rfl)); (case hH => ((try simp only [wtn, List.append_eq, List.foldl_cons, List.foldl_nil, List.map_cons, List.map_nil, Nat.reduceAdd, Nat.reduceMul, Nat.reduceSub, ↓reduceIte, Nat.reduceEqDiff]); rfl))) | fail)); refine awpA_done (by decide +kernel) ?_
  (repeat' (first | with_reducible (first | refine awp_seq ?_ | refine thenA_normal ?_) | fail))
  refine awp_mix (B := [_, _]) (R := [_]) mixed [0, 1, 2, 3, 4, 5] [3] [6, 7] none [] 2 (List.Perm.refl _) (by decide +kernel) rfl (fun i o h => by cases h) (by decide) ?_
  (repeat' (first | (apply dm_quiet rfl rfl; (case h => (intro H1; (try simp only [List.cons_append, List.nil_append]); (first | (apply Evl_k 0 rfl; (exact Evl_mv _ rfl)) | (apply Evl_k 5 rfl; (exact Evl_field_x _ _ _ _ _ _ rfl rfl HFld.out)) | (apply Evl_k 6 rfl; (exact Evl_load _ _ _ _ _ _ _ _ rfl rfl FBox.out HAgg.out (by first | exact Nat.le_of_ble_eq_true rfl | fail) (by first | exact Nat.le_of_ble_eq_true rfl | fail))) | (apply Evl_x; (case hs => (intro _ _ h; cases h)); (case hx => rfl); (case hrun => (intro w; simp [wtb, AV.val, go_sem]; (try go_bits); rfl)))))); (case hT => ((try simp only [wtn, List.append_eq, List.foldl_cons, List.foldl_nil, List.map_cons, List.map_nil, Nat.reduceAdd, Nat.reduceMul, Nat.reduceSub, ↓reduceIte, Nat.reduceEqDiff]); rfl))) | (apply dm_loud rfl rfl; ((refine Stp_k 11 rfl ?_; ((refine Stp_call 19 Tryd.f19 [_] _ _ _ rfl rfl Tryd.func19 (by decide) rfl (List.Perm.refl _) (VwL.refl _ _) (next_w _ l k6 20 hd hk6 (by omega) (by omega)) ?_; rintro _ _ ⟨v7, k7, rfl, rfl, hv7, hk7⟩)))); refine ⟨_, rfl, ?_⟩; apply dm_cong; (case hT => ((try simp only [wtn, List.append_eq, List.foldl_cons, List.foldl_nil, List.map_cons, List.map_nil, Nat.reduceAdd, Nat.reduceMul, Nat.reduceSub, ↓reduceIte, Nat.reduceEqDiff]); rfl)); (case hH => ((try simp only [wtn, List.append_eq, List.foldl_cons, List.foldl_nil, List.map_cons, List.map_nil, Nat.reduceAdd, Nat.reduceMul, Nat.reduceSub, ↓reduceIte, Nat.reduceEqDiff]); rfl))) | fail))
  (first | refine dm_end_none ?_ | fail); (apply awpA_cong; (case hT => ((try simp only [wtn, List.append_eq, List.foldl_cons, List.foldl_nil, List.map_cons, List.map_nil, Nat.reduceAdd, Nat.reduceMul, Nat.reduceSub, ↓reduceIte, Nat.reduceEqDiff]); rfl)); (case hH => (simp only [List.cons_append, List.nil_append]; rfl))); (repeat ((first | refine awpA_1 6 (by decide +kernel) rfl rfl ?_ | refine awpA_1 7 (by decide +kernel) rfl rfl ?_ | fail); (first | (apply Stp_evl; (case h => ((apply Evl_k 5 rfl; (exact Evl_field_x _ _ _ _ _ _ rfl rfl HFld.out)))); (apply awpA_cong; (case hT => ((try simp only [wtn, List.append_eq, List.foldl_cons, List.foldl_nil, List.map_cons, List.map_nil, Nat.reduceAdd, Nat.reduceMul, Nat.reduceSub, ↓reduceIte, Nat.reduceEqDiff]); rfl)); (case hH => rfl))) | (((refine Stp_k 16 rfl ?_; ((refine Stp_store _ _ _ _ _ _ _ rfl rfl FBox.out HSize.out (by first | rfl | fail) (by first | exact Nat.le_of_ble_eq_true rfl | fail) ?_)))); apply awpA_cong; (case hT => ((try simp only [wtn, List.append_eq, List.foldl_cons, List.foldl_nil, List.map_cons, List.map_nil, Nat.reduceAdd, Nat.reduceMul, Nat.reduceSub, ↓reduceIte, Nat.reduceEqDiff]); rfl)); (case hH => ((try simp only [wtn, List.append_eq, List.foldl_cons, List.foldl_nil, List.map_cons, List.map_nil, Nat.reduceAdd, Nat.reduceMul, Nat.reduceSub, ↓reduceIte, Nat.reduceEqDiff]); rfl))) | fail))); refine awpA_done (by decide +kernel) ?_
  (repeat' (first | with_reducible (first | refine awp_seq ?_ | refine awp_region ?_ | refine awp_block ?_ | refine awp_skip ?_ | refine awpL_nil ?_ | refine thenA_normal ?_) | (refine awp_cond _ rfl (fun h => ?_) (fun h => ?_) <;> ((try (simp only [whn] at h)); skip)) | ((apply awpL_evl2 rfl); (case h => ((try (intro (hp : (_ : Bool) = true); ((try simp only [Bool.and_eq_true, Bool.not_eq_true', Bool.not_eq_true] at hp); (try simp only [hp, wte]); (try simp only [whn] at hp)))); (first | (apply Evl_k 0 rfl; (exact Evl_mv _ rfl)) | (apply Evl_k 3 rfl; (exact Evl_len _ _ _ _ _ _ HEl.out rfl rfl)) | (apply Evl_k 5 rfl; (exact Evl_field_x _ _ _ _ _ _ rfl rfl HFld.out)) | (apply Evl_k 9 rfl; (exact Evl_slice_sq _ _ _ _ _ _ _ _ _ _ rfl rfl HEl.out (by first | exact .inl ⟨rfl, rfl⟩ | fail) (by first | exact .inr ⟨_, _, rfl, rfl⟩ | fail) (by omega) (by omega))) | (apply Evl_k 10 rfl; (exact Evl_build _ _ _ _ _ rfl HPl.out (by first | rfl | fail) rfl)) | (apply Evl_k 17 rfl; (exact Evl_rowsq _ _ _ _ _ _ _ _ rfl HElem.out (by first | rfl | fail) rfl (by decide) rfl)) | (apply Evl_x; (case hs => (intro _ _ h; cases h)); (case hx => rfl); (case hrun => (intro w; simp [wtb, AV.val, go_sem]; (try go_bits); rfl)))))); (case hT => ((try simp only [wtn, List.append_eq, List.foldl_cons, List.foldl_nil, List.map_cons, List.map_nil, Nat.reduceAdd, Nat.reduceMul, Nat.reduceSub, ↓reduceIte, Nat.reduceEqDiff]); rfl))) | (refine awpL_cons rfl ?_; ((first | (refine Stp_k 11 rfl ?_; (first | (refine Stp_call 19 Tryd.f19 [_] _ _ _ rfl rfl Tryd.func19 (by decide) rfl (List.perm_middle (l₁ := [_, _])) (VwL.refl _ _) (next_w _ l k7 4 hd hk7 (by omega) (by omega)) ?_; rintro _ _ ⟨v8, k8, rfl, rfl, hv8, hk8⟩) | (refine Stp_call 34 Tryd.f34 [_] _ _ _ rfl rfl Tryd.func34 (by decide) rfl (List.Perm.refl _) (VwL.refl _ _) (range_w _ l k8 1 2 hd hk8 (by omega) (by omega)) ?_; rintro _ _ ⟨v9, k9, rfl, rfl, hv9, hv9', hk9⟩))) | (refine Stp_k 16 rfl ?_; ((refine Stp_store _ _ _ _ _ _ _ rfl rfl FBox.out HSize.out (by first | rfl | fail) (by first | exact Nat.le_of_ble_eq_true rfl | fail) ?_)))); apply awpL_cong; (case hT => ((try simp only [wtn, List.append_eq, List.foldl_cons, List.foldl_nil, List.map_cons, List.map_nil, Nat.reduceAdd, Nat.reduceMul, Nat.reduceSub, ↓reduceIte, Nat.reduceEqDiff]); rfl)); (case hH => ((try simp only [wtn, List.append_eq, List.foldl_cons, List.foldl_nil, List.map_cons, List.map_nil, Nat.reduceAdd, Nat.reduceMul, Nat.reduceSub, ↓reduceIte, Nat.reduceEqDiff]); rfl)))) | fail))
  all_goals
    first
      | (have hEs := envs_ok v9; have he := env_eq hv9'; generalize hgen : envs.take v9 = env at he hEs)
      | (have hEs : EnvOk [] := ⟨Nat.zero_le _, by simp⟩; generalize hgen : ([] : List (List UInt8 × List UInt8)) = env at hEs)
    rename_i ob
    obtain ⟨jb, rfl⟩ : ∃ x, x = b := ⟨b, rfl⟩
    refine awp_nilrow 9 1 ?_
    apply awp_loopS (S := Nat × Nat × List (List UInt8) × Option Addr × Nat) (fun s => frm 95 [(0, .x (.pointer (some ⟨bd, 0, none⟩))), (6, .x (.pointer (some ⟨ob, 0, none⟩))), (7, .x (.pointer (some ⟨jb, 0, none⟩))), (48, .sq others.length (sa others)), (49, .x (.int .i64 others.length)), (50, .x (.int .i64 s.1))])
      (fun s => [.row s.2.2.2.1 s.2.2.1.length s.2.2.2.2 9 1 (sa s.2.2.1), .box bd [.sq l.length (ia l), .x (.int .i64 s.2.1)], .box ob [.x (.string ⟨#[]⟩), .x (.string ⟨#[]⟩), .x (.slice none 0 0), .x (.slice none 0 0), .x (.bool false), .x (.string ⟨#[]⟩), .x (.int .i64 0), .x (.int .u64 0), .x (.int .u64 0), .x (.int .u64 0), .x (.int .i64 0), .x (.int .u64 0), .x (.slice none 0 0), .x (.int .i64 0), .x (.int .i64 0)], .box jb [.x (.string (bs name)), .x (.string (bs (runs.getD v1 []))), .sq env.length (ea env), .x (.slice s.2.2.2.1 s.2.2.1.length s.2.2.2.2), .x (.bool false), .x (.string ⟨#[]⟩), .x (.int .i64 v2), .x (.int .u64 v3), .x (.int .u64 ((v3 : Int) + v7)), .x (.int .u64 v4), .x (.int .i64 v5), .x (.int .u64 v6), .x (.slice none 0 0), .x (.int .i64 0), .x (.int .i64 0)]])
      (fun s => s.1 ≤ others.length ∧ s.2.1 ≤ l.length ∧ s.2.2.1.length ≤ s.1 ∧ ∀ x ∈ s.2.2.1, x.length ≤ 8) (fun s => others.length - s.1) (0, _, [], none, 0)
    case h0 => exact Weak.mk' [] [_, _, _, _] (List.Perm.refl _) (VwHs.cons (VwH.refl _ _) (VwHs.cons (VwH.refl _ _) (VwHs.cons (VwH.refl _ _) (VwHs.cons (VwH.box _ (by (repeat' (first | exact VwL.nil | apply VwL.cons | exact Vw.refl _ | exact Vw.eq he | exact (hgen ▸ Vw.nil) | fail)))) VwHs.nil)))) (by (repeat' (first | exact VwL.nil | (refine VwL.cons ?_ ?_) | exact Vw.refl _ | exact Vw.top _ | fail)))
    case hi => exact ⟨Nat.zero_le _, by assumption, Nat.zero_le _, by simp⟩
    rintro ⟨i, kk, ns, ad, cap⟩ ⟨g1, g2, g3, g4⟩
    simp only at g1 g2 g3 g4
    have g4' := Lib.hid g4
    clear g4
    simp only [frm, List.replicate_succ, List.replicate_zero, List.foldl_cons, List.foldl_nil, List.set_cons_zero, List.set_cons_succ]
    by_cases hlt : i < others.length
    · have hq := hos'.out others[i] (List.getElem_mem hlt)
      (repeat' (first | with_reducible (first | refine awp_seq ?_ | refine awp_region ?_ | refine awp_block ?_ | refine awp_skip ?_ | refine awpL_nil ?_ | refine thenA_normal ?_ | refine inBlockA_normal ?_) | (refine awp_cond _ rfl (fun h => ?_) (fun h => ?_) <;> ((try (simp only [whn] at h)); first | (exfalso; omega; done) | skip)) | ((apply awpL_evl2 rfl); (case h => ((try (intro (hp : (_ : Bool) = true); ((try simp only [Bool.and_eq_true, Bool.not_eq_true', Bool.not_eq_true] at hp); (try simp only [hp, wte]); (try simp only [whn] at hp)))); (first | (apply Evl_k 0 rfl; (first | exact Evl_mv _ rfl | exact Evl_as _ rfl)) | (apply Evl_k 5 rfl; (exact Evl_field_x _ _ _ _ _ _ rfl rfl HFld.out)) | (apply Evl_k 6 rfl; (first | exact Evl_load_at _ _ _ _ _ rfl rfl HAgg.out (by first | exact Nat.le_of_ble_eq_true rfl | fail) (by first | exact Nat.le_of_ble_eq_true rfl | fail) | exact Evl_load _ _ _ _ _ _ _ _ rfl rfl FBox.out HAgg.out (by first | exact Nat.le_of_ble_eq_true rfl | fail) (by first | exact Nat.le_of_ble_eq_true rfl | fail))) | (apply Evl_k 7 rfl; (exact Evl_index_sq _ _ _ _ _ _ _ _ _ _ rfl rfl rfl HEl.out rfl (by first | omega | fail) (by simp; first | omega | fail))) | (apply Evl_x; (case hs => (intro _ _ h; cases h)); (case hx => rfl); (case hrun => (intro w; simp [wtb, AV.val, go_sem]; (try go_bits); rfl)))))); (case hT => ((try simp (disch := assumption) only [wtn, sa_drop, List.append_eq, List.foldl_cons, List.foldl_nil, List.map_cons, List.map_nil, Nat.reduceAdd, Nat.reduceMul, Nat.reduceSub, ↓reduceIte, Nat.reduceEqDiff]); rfl))) | (refine awpL_cons rfl ?_; ((first | (refine Stp_k 11 rfl ?_; ((refine Stp_call 19 Tryd.f19 [_] _ _ _ rfl rfl Tryd.func19 (by decide) rfl (List.perm_middle (l₁ := [_])) (VwL.refl _ _) (next_w _ l kk 3 hd g2 (by omega) (by omega)) ?_; rintro _ _ ⟨u1, k11, rfl, rfl, hu1, hk11⟩))) | (refine Stp_k 13 rfl ?_; ((refine Stp_append _ _ _ _ _ _ _ _ _ _ _ _ _ _ rfl rfl FRow.out (Src.row _ rfl FRow.out) HElem.out (by first | rfl | fail) (fits _ _ (by omega) (by decide)) (fun ad cap => ?_)))) | (refine Stp_k 16 rfl ?_; ((refine Stp_store _ _ _ _ _ _ _ rfl rfl FBox.out HSize.out (by first | rfl | fail) (by first | exact Nat.le_of_ble_eq_true rfl | fail) ?_))) | (refine Stp_k 17 rfl ?_; ((refine Stp_buildSlice _ _ _ _ _ _ _ _ rfl HElem.out (by first | rfl | fail) rfl (by decide) rfl (fun b => ?_))))); apply awpL_cong; (case hT => ((try simp (disch := omega) only [wtn, sa_drop, List.append_eq, List.foldl_cons, List.foldl_nil, List.map_cons, List.map_nil, Nat.reduceAdd, Nat.reduceMul, Nat.reduceSub, ↓reduceIte, Nat.reduceEqDiff]); rfl)); (case hH => ((try simp (disch := omega) only [wtn, sa_drop, List.append_eq, List.foldl_cons, List.foldl_nil, List.map_cons, List.map_nil, Nat.reduceAdd, Nat.reduceMul, Nat.reduceSub, ↓reduceIte, Nat.reduceEqDiff]); rfl)))) | fail))
      · refine ⟨(i + 1, k11, ns ++ [others[i]], ad, cap), by simp only; omega, ⟨by simp only; omega, hk11, by simp only [List.length_append, List.length_cons, List.length_nil]; omega, fun x hx => ?_⟩, ?_⟩
        · rcases List.mem_append.1 hx with hx | hx
          · exact g4'.out x hx
          · rw [List.mem_singleton] at hx; subst hx; exact hq
        · simp only [sa_app, List.length_append, List.length_cons, List.length_nil]
          exact Weak.mk' [_] [.row ad _ cap _ _ _, .box bd _, .box ob _, .box jb _] (List.Perm.trans (l₂ := [.row ad _ cap _ _ _, .box bd _, .box ob _, .box jb _] ++ [_]) (by (repeat' (first | exact List.Perm.refl _ | refine (List.perm_middle (l₁ := [_])).trans (List.Perm.cons _ ?_) | refine (List.perm_middle (l₁ := [_, _])).trans (List.Perm.cons _ ?_) | fail))) List.perm_append_comm) (VwHs.refl _ _) (by (repeat' (first | exact VwL.nil | (refine VwL.cons ?_ ?_) | exact Vw.refl _ | exact Vw.top _ | fail)))
      · exact ⟨(i + 1, k11, ns, ad, cap), by simp only; omega, ⟨by simp only; omega, hk11, by simp only; omega, g4'.out⟩, Weak.mk' [] [.row ad _ cap _ _ _, .box bd _, .box ob _, .box jb _] (by (repeat' (first | exact List.Perm.refl _ | refine (List.perm_middle (l₁ := [_])).trans (List.Perm.cons _ ?_) | fail))) (VwHs.refl _ _) (by (repeat' (first | exact VwL.nil | (refine VwL.cons ?_ ?_) | exact Vw.refl _ | exact Vw.top _ | fail)))⟩
    · (repeat' (first | with_reducible (first | refine awp_seq ?_ | refine awp_region ?_ | refine awp_block ?_ | refine awp_skip ?_ | refine awp_exit ?_ | refine awpL_nil ?_ | refine thenA_normal ?_ | refine thenA_exit ?_ | refine inBlockA_eq ?_) | (refine awp_cond _ rfl (fun h => ?_) (fun h => ?_) <;> ((try (simp only [whn] at h)); first | (exfalso; omega; done) | skip)) | ((apply awpL_evl2 rfl); (case h => ((try (intro (hp : (_ : Bool) = true); ((try simp only [Bool.and_eq_true, Bool.not_eq_true', Bool.not_eq_true] at hp); (try simp only [hp, wte]); (try simp only [whn] at hp)))); (first | (apply Evl_k 0 rfl; (first | exact Evl_mv _ rfl | exact Evl_as _ rfl)) | (apply Evl_x; (case hs => (intro _ _ h; cases h)); (case hx => rfl); (case hrun => (intro w; simp [wtb, AV.val, go_sem]; (try go_bits); rfl)))))); (case hT => ((try simp only [wtn, List.append_eq, List.foldl_cons, List.foldl_nil, List.map_cons, List.map_nil, Nat.reduceAdd, Nat.reduceMul, Nat.reduceSub, ↓reduceIte, Nat.reduceEqDiff]); rfl))) | (refine awpL_cons rfl ?_; (((refine Stp_k 11 rfl ?_; (first | (refine Stp_call 19 Tryd.f19 [_] _ _ _ rfl rfl Tryd.func19 (by decide) rfl (List.perm_middle (l₁ := [_])) (VwL.refl _ _) (next_w _ l kk 2 hd g2 (by omega) (by omega)) ?_; rintro _ _ ⟨u1, k11, rfl, rfl, hu1, hk11⟩) | (refine Stp_call 34 Tryd.f34 [_] _ _ _ rfl rfl Tryd.func34 (by decide) rfl (List.Perm.refl _) (VwL.refl _ _) (range_w _ l k11 1 3 hd hk11 (by omega) (by omega)) ?_; rintro _ _ ⟨u2, k12, rfl, rfl, hu2, hu2', hk12⟩)))); apply awpL_cong; (case hT => ((try simp only [wtn, List.append_eq, List.foldl_cons, List.foldl_nil, List.map_cons, List.map_nil, Nat.reduceAdd, Nat.reduceMul, Nat.reduceSub, ↓reduceIte, Nat.reduceEqDiff]); rfl)); (case hH => ((try simp only [wtn, List.append_eq, List.foldl_cons, List.foldl_nil, List.map_cons, List.map_nil, Nat.reduceAdd, Nat.reduceMul, Nat.reduceSub, ↓reduceIte, Nat.reduceEqDiff]); rfl)))) | fail))
      case' neg.hK.refine_2.hK.h.hK.refine_1 =>
        refine awp_drawnA mixed ?_
        (apply awpA_take 1 rfl rfl (by kernel_rfl) (by intro c T H hp; simp [thenA, inBlockA, jumpA, endA] at hp); (case h => (first | exact WInd_mv _ rfl | fail)); (apply awpA_cong; (case hT => ((try simp only [wtn, List.append_eq, List.foldl_cons, List.foldl_nil, List.map_cons, List.map_nil, Nat.reduceAdd, Nat.reduceMul, Nat.reduceSub, ↓reduceIte, Nat.reduceEqDiff]); rfl)); (case hH => rfl))); (apply awpA_take 5 rfl rfl (by kernel_rfl) (by intro c T H hp; simp [thenA, inBlockA, jumpA, endA] at hp); (case h => (first | exact WInd_field_x _ _ _ _ _ _ rfl rfl HFld.out | fail)); (apply awpA_cong; (case hT => ((try simp only [wtn, List.append_eq, List.foldl_cons, List.foldl_nil, List.map_cons, List.map_nil, Nat.reduceAdd, Nat.reduceMul, Nat.reduceSub, ↓reduceIte, Nat.reduceEqDiff]); rfl)); (case hH => rfl)))
        (refine awpA_1 0 (by decide +kernel) rfl rfl ?_; (first | (apply Stp_evl; (case h => ((apply Evl_k 11 rfl; (exact Evl_call 54 Tryd.f54 _ _ rfl rfl Tryd.func54 (by decide) rfl (VwL.refl _ _) (patterns_w))))); (apply awpA_cong; (case hT => ((try simp only [wtn, List.append_eq, List.foldl_cons, List.foldl_nil, List.map_cons, List.map_nil, Nat.reduceAdd, Nat.reduceMul, Nat.reduceSub, ↓reduceIte, Nat.reduceEqDiff]); rfl)); (case hH => rfl))) | fail))
        (refine awpA_1 2 (by decide +kernel) rfl rfl ?_; (first | (((refine Stp_k 11 rfl ?_; ((refine Stp_call 19 Tryd.f19 [_] _ _ _ rfl rfl Tryd.func19 (by decide) rfl (List.Perm.refl _) (VwL.refl _ _) (next_w _ l k11 7 hd hk11 (by omega) (by omega)) ?_; rintro _ _ ⟨u3, k13, rfl, rfl, hu3, hk13⟩)))); apply awpA_cong; (case hT => ((try simp only [wtn, List.append_eq, List.foldl_cons, List.foldl_nil, List.map_cons, List.map_nil, Nat.reduceAdd, Nat.reduceMul, Nat.reduceSub, ↓reduceIte, Nat.reduceEqDiff]); rfl)); (case hH => ((try simp only [wtn, List.append_eq, List.foldl_cons, List.foldl_nil, List.map_cons, List.map_nil, Nat.reduceAdd, Nat.reduceMul, Nat.reduceSub, ↓reduceIte, Nat.reduceEqDiff]); rfl))) | fail))
        (apply awpA_take 3 rfl rfl (by kernel_rfl) (by intro c T H hp; simp [thenA, inBlockA, jumpA, endA] at hp); (case h => (first | exact WInd_index_sq _ _ _ _ _ _ _ _ _ _ rfl rfl rfl HEl.out rfl (by first | omega | fail) (by simp; first | done | fail) | fail)); (apply awpA_cong; (case hT => ((try simp only [wtn, List.append_eq, List.foldl_cons, List.foldl_nil, List.map_cons, List.map_nil, Nat.reduceAdd, Nat.reduceMul, Nat.reduceSub, ↓reduceIte, Nat.reduceEqDiff]); rfl)); (case hH => rfl)))
        refine awpA_2 4 6 (by decide +kernel) rfl rfl rfl rfl ?_ ?_
        all_goals
          (first | (apply Stp_evl; (case h => ((apply Evl_k 6 rfl; (exact Evl_load_at _ _ _ _ _ rfl rfl HAgg.out (by first | (simp [wlq]; omega) | fail) (by first | (simp [wlq]; omega) | fail))))); (apply awpA_cong; (case hT => ((try simp (disch := assumption) only [wtn, pick_pats, List.append_eq, List.foldl_cons, List.foldl_nil, List.map_cons, List.map_nil, Nat.reduceAdd, Nat.reduceMul, Nat.reduceSub, ↓reduceIte, Nat.reduceEqDiff]); rfl)); (case hH => rfl))) | (((refine Stp_k 16 rfl ?_; ((refine Stp_store _ _ _ _ _ _ _ rfl rfl FBox.out HSize.out (by first | rfl | fail) (by first | exact Nat.le_of_ble_eq_true rfl | fail) ?_)))); apply awpA_cong; (case hT => ((try simp (disch := omega) only [wtn, pick_pats, List.append_eq, List.foldl_cons, List.foldl_nil, List.map_cons, List.map_nil, Nat.reduceAdd, Nat.reduceMul, Nat.reduceSub, ↓reduceIte, Nat.reduceEqDiff]); rfl)); (case hH => ((try simp (disch := omega) only [wtn, pick_pats, List.append_eq, List.foldl_cons, List.foldl_nil, List.map_cons, List.map_nil, Nat.reduceAdd, Nat.reduceMul, Nat.reduceSub, ↓reduceIte, Nat.reduceEqDiff]); rfl))) | fail)
          (repeat ((first | refine awpA_1 4 (by decide +kernel) rfl rfl ?_ | refine awpA_1 6 (by decide +kernel) rfl rfl ?_ | refine awpA_1 7 (by decide +kernel) rfl rfl ?_ | refine awpA_1 8 (by decide +kernel) rfl rfl ?_ | fail); (first | (apply Stp_evl; (case h => (first | (apply Evl_k 5 rfl; (exact Evl_field_x _ _ _ _ _ _ rfl rfl HFld.out)) | (apply Evl_k 6 rfl; (exact Evl_load_at _ _ _ _ _ rfl rfl HAgg.out (by first | (simp [wlq]; omega) | fail) (by first | (simp [wlq]; omega) | fail))))); (apply awpA_cong; (case hT => ((try simp (disch := assumption) only [wtn, pick_pats, List.append_eq, List.foldl_cons, List.foldl_nil, List.map_cons, List.map_nil, Nat.reduceAdd, Nat.reduceMul, Nat.reduceSub, ↓reduceIte, Nat.reduceEqDiff]); rfl)); (case hH => rfl))) | (((refine Stp_k 16 rfl ?_; ((refine Stp_store _ _ _ _ _ _ _ rfl rfl FBox.out HSize.out (by first | rfl | fail) (by first | exact Nat.le_of_ble_eq_true rfl | fail) ?_)))); apply awpA_cong; (case hT => ((try simp (disch := omega) only [wtn, pick_pats, List.append_eq, List.foldl_cons, List.foldl_nil, List.map_cons, List.map_nil, Nat.reduceAdd, Nat.reduceMul, Nat.reduceSub, ↓reduceIte, Nat.reduceEqDiff]); rfl)); (case hH => ((try simp (disch := omega) only [wtn, pick_pats, List.append_eq, List.foldl_cons, List.foldl_nil, List.map_cons, List.map_nil, Nat.reduceAdd, Nat.reduceMul, Nat.reduceSub, ↓reduceIte, Nat.reduceEqDiff]); rfl))) | fail)))
          refine awpA_done (by decide +kernel) ?_
          (repeat' (first | with_reducible (first | refine awp_seq ?_ | refine awp_region ?_ | refine awp_block ?_ | refine awpL_nil ?_ | refine thenA_normal ?_) | ((apply awpL_evl2 rfl); (case h => ((try (intro (hp : (_ : Bool) = true); ((try simp only [Bool.and_eq_true, Bool.not_eq_true', Bool.not_eq_true] at hp); (try simp only [hp, wte]); (try simp only [whn] at hp)))); ((apply Evl_k 0 rfl; (first | exact Evl_mv _ rfl | exact Evl_as _ rfl))))); (case hT => ((try simp only [wtn, List.append_eq, List.foldl_cons, List.foldl_nil, List.map_cons, List.map_nil, Nat.reduceAdd, Nat.reduceMul, Nat.reduceSub, ↓reduceIte, Nat.reduceEqDiff]); rfl))) | (refine awpL_cons rfl ?_; (((refine Stp_k 11 rfl ?_; ((refine Stp_call 34 Tryd.f34 [_] _ _ _ rfl rfl Tryd.func34 (by decide) rfl (List.Perm.refl _) (VwL.refl _ _) (range_w _ l k13 1 3 hd hk13 (by omega) (by omega)) ?_; rintro _ _ ⟨u2, k12, rfl, rfl, hu2, hu2', hk12⟩)))); apply awpL_cong; (case hT => ((try simp only [wtn, List.append_eq, List.foldl_cons, List.foldl_nil, List.map_cons, List.map_nil, Nat.reduceAdd, Nat.reduceMul, Nat.reduceSub, ↓reduceIte, Nat.reduceEqDiff]); rfl)); (case hH => ((try simp only [wtn, List.append_eq, List.foldl_cons, List.foldl_nil, List.map_cons, List.map_nil, Nat.reduceAdd, Nat.reduceMul, Nat.reduceSub, ↓reduceIte, Nat.reduceEqDiff]); rfl)))) | fail))
      all_goals
        refine awp_nilrow 121 2 ?_
        apply awp_loopS (S := Nat × Nat × List (Int × Int) × Option Addr × Nat × Bool × List UInt8) (fun s => frm 95 [(0, .x (.pointer (some ⟨bd, 0, none⟩))), (6, .x (.pointer (some ⟨ob, 0, none⟩))), (7, .x (.pointer (some ⟨jb, 0, none⟩))), (10, .x (.int .i64 s.1))])
          (fun s => [.row s.2.2.2.1 s.2.2.1.length s.2.2.2.2.1 121 2 (ra s.2.2.1), .box bd [.sq l.length (ia l), .x (.int .i64 s.2.1)], .box ob [.x (.string ⟨#[]⟩), .x (.string ⟨#[]⟩), .x (.slice none 0 0), .x (.slice none 0 0), .x (.bool false), .x (.string ⟨#[]⟩), .x (.int .i64 0), .x (.int .u64 0), .x (.int .u64 0), .x (.int .u64 0), .x (.int .i64 0), .x (.int .u64 0), .x (.slice none 0 0), .x (.int .i64 0), .x (.int .i64 0)], .box jb [.x (.string (bs name)), .x (.string (bs (runs.getD v1 []))), .sq env.length (ea env), .sq ns.length (sa ns), .x (.bool s.2.2.2.2.2.1), .x (.string (bs s.2.2.2.2.2.2)), .x (.int .i64 v2), .x (.int .u64 v3), .x (.int .u64 ((v3 : Int) + v7)), .x (.int .u64 v4), .x (.int .i64 v5), .x (.int .u64 v6), .x (.slice s.2.2.2.1 s.2.2.1.length s.2.2.2.2.1), .x (.int .i64 0), .x (.int .i64 0)]])
          (fun s => s.1 ≤ 3 ∧ s.2.1 ≤ l.length ∧ s.2.2.1.length + s.1 ≤ 3 ∧ (∀ p ∈ s.2.2.1, U64 p.2) ∧ s.2.2.2.2.2.2.length ≤ 16) (fun s => s.1) (u2, k12, [], none, 0, _, _)
        case h0 => exact Weak.mk' [.row ad ns.length cap _ _ _] [.row none 0 0 _ _ _, .box bd _, .box ob _, .box jb _] (by (repeat' (first | exact List.Perm.refl _ | refine (List.perm_middle (l₁ := [_, _])).trans (List.Perm.cons _ ?_) | fail))) (VwHs.cons (VwH.refl _ _) (VwHs.cons (VwH.refl _ _) (VwHs.cons (VwH.refl _ _) (VwHs.cons (VwH.box _ (by (repeat' (first | exact VwL.nil | apply VwL.cons | exact Vw.refl _ | exact Vw.row (List.Mem.head _) (VwL.refl _ _) | fail)))) VwHs.nil)))) (by (repeat' (first | exact VwL.nil | (refine VwL.cons ?_ ?_) | exact Vw.refl _ | exact Vw.top _ | fail)))
        case hi => exact ⟨by omega, hk12, by simp; omega, by simp, by first | (simp; done) | exact allD pats (fun s => s.length ≤ 16) (by decide) _ (by assumption) | fail⟩
        rintro ⟨m, k4', rs, ad2, cap2, hr, rd⟩ ⟨f1, f2, f3, f4, f5⟩
        simp only at f1 f2 f3 f4 f5
        have f4' := Lib.hid f4
        clear f4
        simp only [frm, List.replicate_succ, List.replicate_zero, List.foldl_cons, List.foldl_nil, List.set_cons_zero, List.set_cons_succ]
        by_cases hm : 0 < m
        · (repeat' (first | with_reducible (first | refine awp_seq ?_ | refine awp_region ?_ | refine awp_block ?_ | refine awp_skip ?_ | refine awpL_nil ?_ | refine thenA_normal ?_) | (refine awp_cond _ rfl (fun h => ?_) (fun h => ?_) <;> ((try (simp only [whn] at h)); first | (exfalso; omega; done) | skip)) | ((apply awpL_evl2 rfl); (case h => ((try (intro (hp : (_ : Bool) = true); ((try simp only [Bool.and_eq_true, Bool.not_eq_true', Bool.not_eq_true] at hp); (try simp only [hp, wte]); (try simp only [whn] at hp)))); (first | (apply Evl_k 0 rfl; (exact Evl_mv _ rfl)) | (apply Evl_x; (case hs => (intro _ _ h; cases h)); (case hx => rfl); (case hrun => (intro w; simp [wtb, AV.val, go_sem]; (try go_bits); rfl)))))); (case hT => ((try simp only [wtn, List.append_eq, List.foldl_cons, List.foldl_nil, List.map_cons, List.map_nil, Nat.reduceAdd, Nat.reduceMul, Nat.reduceSub, ↓reduceIte, Nat.reduceEqDiff]); rfl))) | fail))
          refine awp_mix (B := [_, _]) (R := [_, _]) mixed [0, 1, 2, 3, 7, 4, 5, 6, 8, 9, 10, 11, 12] [4, 8, 12] [13, 14] none [] 2 (List.perm_append_comm (l₁ := [_, _]) (l₂ := [_, _])) (by decide +kernel) rfl (fun i o h => by cases h) (by decide) ?_
          (repeat' (first | (apply dm_quiet rfl rfl; (case h => (intro H1; (try simp only [List.cons_append, List.nil_append]); (first | (apply Evl_k 0 rfl; (exact Evl_mv _ rfl)) | (apply Evl_k 5 rfl; (exact Evl_field_x _ _ _ _ _ _ rfl rfl HFld.out)) | (apply Evl_k 6 rfl; (first | exact Evl_load_at _ _ _ _ _ rfl rfl HAgg.out (by first | (simp [wlq]; omega) | fail) (by first | (simp [wlq]; omega) | fail) | exact Evl_load _ _ _ _ _ _ _ _ rfl rfl FBox.out HAgg.out (by first | exact Nat.le_of_ble_eq_true rfl | fail) (by first | exact Nat.le_of_ble_eq_true rfl | fail))) | (apply Evl_k 7 rfl; (exact Evl_index_sq _ _ _ _ _ _ _ _ _ _ rfl rfl rfl HEl.out rfl (by first | omega | fail) (by simp; first | done | fail))) | (apply Evl_k 10 rfl; (exact Evl_build _ _ _ _ _ rfl HPl.out (by first | rfl | fail) rfl)) | (apply Evl_k 17 rfl; (first | exact Evl_rowall _ _ _ _ _ _ rfl HElem.out rfl (by first | rfl | fail) rfl rfl (by decide) | exact Evl_rowsq _ _ _ _ _ _ _ _ rfl HElem.out (by first | rfl | fail) rfl (by decide) rfl)) | (apply Evl_x; (case hs => (intro _ _ h; cases h)); (case hx => rfl); (case hrun => (intro w; simp [wtb, AV.val, go_sem]; (try go_bits); rfl)))))); (case hT => ((try simp (disch := assumption) only [wtn, pick_sigs, List.append_eq, List.foldl_cons, List.foldl_nil, List.map_cons, List.map_nil, Nat.reduceAdd, Nat.reduceMul, Nat.reduceSub, ↓reduceIte, Nat.reduceEqDiff]); rfl))) | (apply dm_loud rfl rfl; (first | (refine Stp_k 11 rfl ?_; (first | (refine Stp_call 19 Tryd.f19 [_] _ _ _ rfl rfl Tryd.func19 (by decide) rfl (List.perm_middle (l₁ := [_])) (VwL.refl _ _) (next_w _ l k4' 3 hd f2 (by omega) (by omega)) ?_; rintro _ _ ⟨w1, k5', rfl, rfl, hw1, hk5'⟩) | (refine Stp_call 19 Tryd.f19 [_] _ _ _ rfl rfl Tryd.func19 (by decide) rfl (List.Perm.refl _) (VwL.refl _ _) (next_w _ l k5' 9 hd hk5' (by omega) (by omega)) ?_; rintro _ _ ⟨w2, k6', rfl, rfl, hw2, hk6'⟩))) | (refine Stp_k 13 rfl ?_; ((refine Stp_append _ _ _ _ _ _ _ _ _ _ _ _ _ _ rfl rfl FRow.out (Src.sq rfl) HElem.out (by first | rfl | fail) (fits _ _ (by omega) (by decide)) (fun ad cap => ?_))))); refine ⟨_, rfl, ?_⟩; apply dm_cong; (case hT => ((try simp (disch := omega) only [wtn, pick_sigs, List.append_eq, List.foldl_cons, List.foldl_nil, List.map_cons, List.map_nil, Nat.reduceAdd, Nat.reduceMul, Nat.reduceSub, ↓reduceIte, Nat.reduceEqDiff]); rfl)); (case hH => ((try simp (disch := omega) only [wtn, pick_sigs, List.append_eq, List.foldl_cons, List.foldl_nil, List.map_cons, List.map_nil, Nat.reduceAdd, Nat.reduceMul, Nat.reduceSub, ↓reduceIte, Nat.reduceEqDiff]); rfl))) | fail))
          (first | refine dm_end_none ?_ | fail); (apply awpA_cong; (case hT => ((try simp only [wtn, List.append_eq, List.foldl_cons, List.foldl_nil, List.map_cons, List.map_nil, Nat.reduceAdd, Nat.reduceMul, Nat.reduceSub, ↓reduceIte, Nat.reduceEqDiff]); rfl)); (case hH => (simp only [List.cons_append, List.nil_append]; rfl))); (repeat ((first | refine awpA_1 13 (by decide +kernel) rfl rfl ?_ | refine awpA_1 14 (by decide +kernel) rfl rfl ?_ | fail); (first | (apply Stp_evl; (case h => ((apply Evl_k 5 rfl; (exact Evl_field_x _ _ _ _ _ _ rfl rfl HFld.out)))); (apply awpA_cong; (case hT => ((try simp only [wtn, List.append_eq, List.foldl_cons, List.foldl_nil, List.map_cons, List.map_nil, Nat.reduceAdd, Nat.reduceMul, Nat.reduceSub, ↓reduceIte, Nat.reduceEqDiff]); rfl)); (case hH => rfl))) | (((refine Stp_k 16 rfl ?_; ((refine Stp_store _ _ _ _ _ _ _ rfl rfl FBox.out HSize.out (by first | rfl | fail) (by first | exact Nat.le_of_ble_eq_true rfl | fail) ?_)))); apply awpA_cong; (case hT => ((try simp only [wtn, List.append_eq, List.foldl_cons, List.foldl_nil, List.map_cons, List.map_nil, Nat.reduceAdd, Nat.reduceMul, Nat.reduceSub, ↓reduceIte, Nat.reduceEqDiff]); rfl)); (case hH => ((try simp only [wtn, List.append_eq, List.foldl_cons, List.foldl_nil, List.map_cons, List.map_nil, Nat.reduceAdd, Nat.reduceMul, Nat.reduceSub, ↓reduceIte, Nat.reduceEqDiff]); rfl))) | fail))); refine awpA_done (by decide +kernel) ?_
          (repeat' (first | with_reducible (first | refine awp_region ?_ | refine awpL_nil ?_ | refine thenA_normal ?_ | refine inBlockA_normal ?_) | ((apply awpL_evl2 rfl); (case h => ((try (intro (hp : (_ : Bool) = true); ((try simp only [Bool.and_eq_true, Bool.not_eq_true', Bool.not_eq_true] at hp); (try simp only [hp, wte]); (try simp only [whn] at hp)))); (first | (apply Evl_k 0 rfl; (first | exact Evl_mv _ rfl | exact Evl_as _ rfl)) | (apply Evl_x; (case hs => (intro _ _ h; cases h)); (case hx => rfl); (case hrun => (intro w; simp [wtb, AV.val, go_sem]; (try go_bits); rfl)))))); (case hT => ((try simp only [wtn, List.append_eq, List.foldl_cons, List.foldl_nil, List.map_cons, List.map_nil, Nat.reduceAdd, Nat.reduceMul, Nat.reduceSub, ↓reduceIte, Nat.reduceEqDiff]); rfl))) | fail))
          refine ⟨(m - 1, k6', rs ++ [(sigs.getD w1 0, (w2 : Int))], ad, cap, hr, rd), by simp only; omega, ⟨by simp only; omega, hk6', by simp only [List.length_append, List.length_cons, List.length_nil]; omega, fun p hp => ?_, f5⟩, ?_⟩
          · rcases List.mem_append.1 hp with hp | hp
            · exact f4'.out p hp
            · rw [List.mem_singleton] at hp; subst hp; exact ⟨by simp only; omega, by simp only; omega⟩
          · simp only [ra_app, List.length_append, List.length_cons, List.length_nil]
            exact Weak.mk' [] [.row ad _ cap _ _ _, .box bd _, .box ob _, .box jb _] (by (repeat' (first | exact List.Perm.refl _ | refine (List.perm_middle (l₁ := [_, _])).trans (List.Perm.cons _ ?_) | refine (List.perm_middle (l₁ := [_, _, _])).trans (List.Perm.cons _ ?_) | fail))) (VwHs.refl _ _) (by (repeat' (first | exact VwL.nil | (refine VwL.cons ?_ ?_) | exact Vw.refl _ | exact Vw.top _ | (refine Vw.eq ?_; (congr 3; omega)) | fail)))
        · (repeat' (first | with_reducible (first | refine awp_seq ?_ | refine awp_region ?_ | refine awp_ret ?_ | refine awp_exit ?_ | refine awpL_nil ?_ | refine thenA_normal ?_ | refine thenA_exit ?_ | refine inBlockA_eq ?_) | (refine awp_cond _ rfl (fun h => ?_) (fun h => ?_) <;> ((try (simp only [whn] at h)); first | (exfalso; omega; done) | skip)) | ((apply awpL_evl2 rfl); (case h => ((try (intro (hp : (_ : Bool) = true); ((try simp only [Bool.and_eq_true, Bool.not_eq_true', Bool.not_eq_true] at hp); (try simp only [hp, wte]); (try simp only [whn] at hp)))); (first | (apply Evl_k 0 rfl; (exact Evl_mv _ rfl)) | (apply Evl_k 6 rfl; (exact Evl_load _ _ _ _ _ _ _ _ rfl rfl FBox.out HAgg.out (by first | exact Nat.le_of_ble_eq_true rfl | fail) (by first | exact Nat.le_of_ble_eq_true rfl | fail))) | (apply Evl_x; (case hs => (intro _ _ h; cases h)); (case hx => rfl); (case hrun => (intro w; simp [wtb, AV.val, go_sem]; (try go_bits); rfl)))))); (case hT => ((try simp only [wtn, List.append_eq, List.foldl_cons, List.foldl_nil, List.map_cons, List.map_nil, Nat.reduceAdd, Nat.reduceMul, Nat.reduceSub, ↓reduceIte, Nat.reduceEqDiff]); rfl))) | (refine awpL_cons rfl ?_; (((refine Stp_k 16 rfl ?_; ((refine Stp_store _ _ _ _ _ _ _ rfl rfl FBox.out HSize.out (by first | rfl | fail) (by first | exact Nat.le_of_ble_eq_true rfl | fail) ?_)))); apply awpL_cong; (case hT => ((try simp only [wtn, List.append_eq, List.foldl_cons, List.foldl_nil, List.map_cons, List.map_nil, Nat.reduceAdd, Nat.reduceMul, Nat.reduceSub, ↓reduceIte, Nat.reduceEqDiff]); rfl)); (case hH => ((try simp only [wtn, List.append_eq, List.foldl_cons, List.foldl_nil, List.map_cons, List.map_nil, Nat.reduceAdd, Nat.reduceMul, Nat.reduceSub, ↓reduceIte, Nat.reduceEqDiff]); rfl)))) | fail))
          refine endA_ret _ _ ?_ ⟨⟨name, runs.getD v1 [], env, ns, hr, rd, v2, v3, (v3 : Int) + v7, v4, v5, v6, rs, 0, 0⟩, k4', rfl, rfl, f2, ⟨hn, allD runs (fun s => s.length ≤ 16) (by decide) _ hv1, hEs.1, hEs.2, by simp only; omega, g4'.out, f5, by simp only; omega, f4'.out, ⟨by simp only; omega, by simp only; omega⟩, ⟨by simp only; omega, by simp only; omega⟩, ⟨by simp only; omega, by simp only; omega⟩, ⟨by simp only; omega, by simp only; omega⟩, ⟨by simp only; omega, by simp only; omega⟩⟩⟩
          exact Res1 rfl (RV.cell 2 rfl rfl HAgg.out (by simp) (by simp)) (Weak.mk' [_, .box ob _, .box jb _] [.box bd _] (by (repeat' (first | exact List.Perm.refl _ | refine List.Perm.cons _ ?_ | refine (List.perm_middle (l₁ := [_])).trans (List.Perm.cons _ ?_) | fail))) (VwHs.refl _ _) (VwL.cons (Vw.agg (by (repeat' (first | exact VwL.nil | apply VwL.cons | exact Vw.refl _ | exact Vw.row (List.Mem.head _) (VwL.refl _ _) | fail)))) VwL.nil))
end Go.Proofs.YtfaljkenmbbbaaaDoor
/- The mill: at most four jobs. -/
namespace Go.Proofs.YtfaljkenmbbbaaaDoor
open Go.RowKit
set_option linter.unusedSimpArgs false
set_option linter.unusedVariables false
def names4 : List (List UInt8) := [[97], [98], [99], [100]]
theorem pick_names4 {v : Nat} (h : v < 4) : (List.drop v [.x (.string ⟨#[97]⟩), .x (.string ⟨#[98]⟩), .x (.string ⟨#[99]⟩), .x (.string ⟨#[100]⟩)]).getD 0 AV.top = .x (.string (bs (names4.getD v []))) := pick_sa names4 v h
theorem take_names4 {v : Nat} (h : v ≤ 4) : AV.sq (v - 0) (List.take (v - 0) [.x (.string ⟨#[97]⟩), .x (.string ⟨#[98]⟩), .x (.string ⟨#[99]⟩), .x (.string ⟨#[100]⟩)]) = .sq (names4.take v).length (sa (names4.take v)) := by
  match v, h with
  | 0, _ => rfl
  | 1, _ => rfl
  | 2, _ => rfl
  | 3, _ => rfl
  | 4, _ => rfl
theorem jfa_app' (l m : List JF) : jfa (l ++ m) = jfa l ++ jfa m := by simp [jfa]
theorem names4_mem (v : Nat) : ∀ s ∈ names4.take v, s.length ≤ 8 := fun s hs => by
  have := List.mem_of_mem_take hs
  simp only [names4, List.mem_cons, List.not_mem_nil, or_false] at this
  rcases this with rfl | rfl | rfl | rfl <;> simp
set_option maxRecDepth 100000 in
set_option maxHeartbeats 8000000 in
theorem jobs_w (bd : Nat) (l : List Int) (k : Nat) (hd : DK l) (hk : k ≤ l.length) : Spec Tryd.prog 21 [.box bd [.sq l.length (ia l), .x (.int .i64 k)]] [.x (.pointer (some ⟨bd, 0, none⟩))] (fun r H' => ∃ (js : List JF) (k' : Nat), r = .sq js.length (jfa js) ∧ H' = [.box bd [.sq l.length (ia l), .x (.int .i64 k')]] ∧ k' ≤ l.length ∧ js.length ≤ 4 ∧ ∀ j ∈ js, JSmall j) := by
  refine Spec_of Tryd.func21 rfl ?_
  simp only [Tryd.ntmps21, List.length_cons, List.length_nil, List.replicate_succ, List.replicate_zero, List.cons_append, List.nil_append, Nat.reduceAdd, Nat.reduceSub]
  (repeat' (first | with_reducible (first | refine awp_seq ?_ | refine awp_region ?_ | refine awp_block ?_ | refine awpL_nil ?_ | refine thenA_normal ?_) | ((apply awpL_evl2 rfl); (case h => ((try (intro (hp : (_ : Bool) = true); ((try simp only [Bool.and_eq_true, Bool.not_eq_true', Bool.not_eq_true] at hp); (try simp only [hp, wte]); (try simp only [whn] at hp)))); (first | (apply Evl_k 0 rfl; (first | exact Evl_mv _ rfl | exact Evl_as _ rfl)) | (apply Evl_k 17 rfl; (exact Evl_rowall _ _ _ _ _ _ rfl HElem.out rfl (by first | rfl | fail) rfl rfl (by decide)))))); (case hT => ((try simp only [wtn, List.append_eq, List.foldl_cons, List.foldl_nil, List.map_cons, List.map_nil, Nat.reduceAdd, Nat.reduceMul, Nat.reduceSub, ↓reduceIte, Nat.reduceEqDiff]); rfl))) | (refine awpL_cons rfl ?_; (((refine Stp_k 11 rfl ?_; (first | (refine Stp_call 19 Tryd.f19 [_] _ _ _ rfl rfl Tryd.func19 (by decide) rfl (List.Perm.refl _) (VwL.refl _ _) (next_w _ l k 2 hd hk (by omega) (by omega)) ?_; rintro _ _ ⟨v1, k1, rfl, rfl, hv1, hk1⟩) | (refine Stp_call 34 Tryd.f34 [_] _ _ _ rfl rfl Tryd.func34 (by decide) rfl (List.Perm.refl _) (VwL.refl _ _) (range_w _ l k1 1 4 hd hk1 (by omega) (by omega)) ?_; rintro _ _ ⟨v2, k2, rfl, rfl, hv2, hv2', hk2⟩)))); apply awpL_cong; (case hT => ((try simp only [wtn, List.append_eq, List.foldl_cons, List.foldl_nil, List.map_cons, List.map_nil, Nat.reduceAdd, Nat.reduceMul, Nat.reduceSub, ↓reduceIte, Nat.reduceEqDiff]); rfl)); (case hH => ((try simp only [wtn, List.append_eq, List.foldl_cons, List.foldl_nil, List.map_cons, List.map_nil, Nat.reduceAdd, Nat.reduceMul, Nat.reduceSub, ↓reduceIte, Nat.reduceEqDiff]); rfl)))) | fail))
  refine awp_nilrow 86 15 ?_
  apply awp_loopS (S := Nat × Nat × List JF × Option Addr × Nat) (fun s => frm 39 [(0, .x (.pointer (some ⟨bd, 0, none⟩))), (3, .x (.slice s.2.2.2.1 s.2.2.1.length s.2.2.2.2)), (4, .sq 4 [.x (.string ⟨#[97]⟩), .x (.string ⟨#[98]⟩), .x (.string ⟨#[99]⟩), .x (.string ⟨#[100]⟩)]), (5, .x (.int .i64 v1)), (6, .x (.int .i64 v2)), (7, .x (.int .i64 s.1))])
    (fun s => [.row s.2.2.2.1 s.2.2.1.length s.2.2.2.2 86 15 (jfa s.2.2.1), .box bd [.sq l.length (ia l), .x (.int .i64 s.2.1)]]) (fun s => s.1 ≤ v2 ∧ s.2.1 ≤ l.length ∧ s.2.2.1.length = s.1 ∧ ∀ j ∈ s.2.2.1, JSmall j) (fun s => v2 - s.1) (0, k2, [], none, 0)
  case h0 => exact (Weak.mk' [] _ (List.Perm.refl _) (VwHs.refl _ _) (by (repeat' (first | exact VwL.nil | (refine VwL.cons ?_ ?_) | exact Vw.refl _ | exact Vw.top _ | fail))))
  case hi => exact ⟨Nat.zero_le _, hk2, rfl, by simp⟩
  rintro ⟨i, kk, js, ad, cap⟩ ⟨g1, g2, g3, g4⟩
  simp only at g1 g2 g3 g4
  have g4' := Lib.hid g4
  clear g4
  simp only [frm, List.replicate_succ, List.replicate_zero, List.foldl_cons, List.foldl_nil, List.set_cons_zero, List.set_cons_succ]
  by_cases hlt : i < v2
  · (repeat' (first | with_reducible (first | refine awp_seq ?_ | refine awp_region ?_ | refine awp_block ?_ | refine awp_skip ?_ | refine awpL_nil ?_ | refine thenA_normal ?_) | (refine awp_cond _ rfl (fun h => ?_) (fun h => ?_) <;> ((try (simp only [whn] at h)); first | (exfalso; omega; done) | skip)) | ((apply awpL_evl2 rfl); (case h => ((try (intro (hp : (_ : Bool) = true); ((try simp only [Bool.and_eq_true, Bool.not_eq_true', Bool.not_eq_true] at hp); (try simp only [hp, wte]); (try simp only [whn] at hp)))); (first | (apply Evl_k 0 rfl; (exact Evl_mv _ rfl)) | (apply Evl_x; (case hs => (intro _ _ h; cases h)); (case hx => rfl); (case hrun => (intro w; simp [wtb, AV.val, go_sem]; (try go_bits); rfl)))))); (case hT => ((try simp only [wtn, List.append_eq, List.foldl_cons, List.foldl_nil, List.map_cons, List.map_nil, Nat.reduceAdd, Nat.reduceMul, Nat.reduceSub, ↓reduceIte, Nat.reduceEqDiff]); rfl))) | fail))
    refine awp_mix (B := []) (R := [_, _]) mixed [0, 1, 2, 3, 4, 5, 6, 7, 8] [8] [10] (some 9) _ 1 (List.Perm.refl _) (by decide +kernel) rfl (mix_alloc rfl rfl rfl HZero.out rfl rfl) (by decide) ?_
    (repeat' (first | (apply dm_quiet rfl rfl; (case h => (intro H1; (try simp only [List.cons_append, List.nil_append]); (first | (apply Evl_k 0 rfl; (exact Evl_mv _ rfl)) | (apply Evl_k 6 rfl; (exact Evl_load_at _ _ _ _ _ rfl rfl HAgg.out (by first | (simp [wlq]; omega) | fail) (by first | (simp [wlq]; omega) | fail))) | (apply Evl_k 7 rfl; (exact Evl_index_sq _ _ _ _ _ _ _ _ _ _ rfl rfl rfl HEl.out rfl (by first | omega | fail) (by simp; first | done | fail))) | (apply Evl_k 9 rfl; (exact Evl_slice_sq _ _ _ _ _ _ _ _ _ _ rfl rfl HEl.out (by first | exact .inl ⟨rfl, rfl⟩ | fail) (by first | exact .inr ⟨_, _, rfl, rfl⟩ | fail) (by omega) (by omega)))))); (case hT => ((try simp (disch := omega) only [wtn, pick_names4, take_names4, JF.cells, List.append_eq, List.foldl_cons, List.foldl_nil, List.map_cons, List.map_nil, Nat.reduceAdd, Nat.reduceMul, Nat.reduceSub, ↓reduceIte, Nat.reduceEqDiff]); rfl))) | (apply dm_loud rfl rfl; ((refine Stp_k 11 rfl ?_; ((refine Stp_call 35 Tryd.f35 [_] _ _ _ rfl rfl Tryd.func35 (by decide) rfl (List.perm_middle (l₁ := [_])) (VwL.refl _ _) (mjob_w _ l kk hd g2 (names4.getD i []) (names4.take i) (allD names4 (fun s => s.length ≤ 8) (by decide) i (by simp [names4]; omega)) (by simp [names4]; omega) (names4_mem i)) ?_; rintro _ _ ⟨j, k3, rfl, rfl, hk3, hj⟩)))); refine ⟨_, rfl, ?_⟩; apply dm_cong; (case hT => ((try simp (disch := omega) only [wtn, pick_names4, take_names4, JF.cells, List.append_eq, List.foldl_cons, List.foldl_nil, List.map_cons, List.map_nil, Nat.reduceAdd, Nat.reduceMul, Nat.reduceSub, ↓reduceIte, Nat.reduceEqDiff]); rfl)); (case hH => ((try simp (disch := omega) only [wtn, pick_names4, take_names4, JF.cells, List.append_eq, List.foldl_cons, List.foldl_nil, List.map_cons, List.map_nil, Nat.reduceAdd, Nat.reduceMul, Nat.reduceSub, ↓reduceIte, Nat.reduceEqDiff]); rfl))) | fail))
    (first | (refine dm_end_alloc rfl (fun b => ?_)) | fail); (apply awpA_cong; (case hT => ((try simp only [wtn, List.append_eq, List.foldl_cons, List.foldl_nil, List.map_cons, List.map_nil, Nat.reduceAdd, Nat.reduceMul, Nat.reduceSub, ↓reduceIte, Nat.reduceEqDiff]); rfl)); (case hH => (simp only [List.cons_append, List.nil_append]; rfl))); (refine awpA_1 10 (by decide +kernel) rfl rfl ?_; (first | (((refine Stp_k 16 rfl ?_; ((refine Stp_store _ _ _ _ _ _ _ rfl rfl FBox.out HSize.out (by first | rfl | fail) (by first | exact Nat.le_of_ble_eq_true rfl | fail) ?_)))); apply awpA_cong; (case hT => ((try simp only [wtn, List.append_eq, List.foldl_cons, List.foldl_nil, List.map_cons, List.map_nil, Nat.reduceAdd, Nat.reduceMul, Nat.reduceSub, ↓reduceIte, Nat.reduceEqDiff]); rfl)); (case hH => ((try simp only [wtn, List.append_eq, List.foldl_cons, List.foldl_nil, List.map_cons, List.map_nil, Nat.reduceAdd, Nat.reduceMul, Nat.reduceSub, ↓reduceIte, Nat.reduceEqDiff]); rfl))) | fail)); refine awpA_done (by decide +kernel) ?_
    (repeat' (first | with_reducible (first | refine awp_seq ?_ | refine awp_region ?_ | refine awpL_nil ?_ | refine thenA_normal ?_ | refine inBlockA_normal ?_) | (refine awp_cond _ rfl (fun h => ?_) (fun h => ?_) <;> ((try (simp only [whn] at h)); skip)) | ((apply awpL_evl2 rfl); (case h => ((try (intro (hp : (_ : Bool) = true); ((try simp only [Bool.and_eq_true, Bool.not_eq_true', Bool.not_eq_true] at hp); (try simp only [hp, wte]); (try simp only [whn] at hp)))); (first | (apply Evl_k 0 rfl; (first | exact Evl_mv _ rfl | exact Evl_as _ rfl)) | (apply Evl_k 6 rfl; (exact Evl_load _ _ _ _ _ _ _ _ rfl rfl FBox.out HAgg.out (by first | exact Nat.le_of_ble_eq_true rfl | fail) (by first | exact Nat.le_of_ble_eq_true rfl | fail))) | (apply Evl_x; (case hs => (intro _ _ h; cases h)); (case hx => rfl); (case hrun => (intro w; simp [wtb, AV.val, go_sem]; (try go_bits); rfl)))))); (case hT => ((try simp only [wtn, List.append_eq, List.foldl_cons, List.foldl_nil, List.map_cons, List.map_nil, Nat.reduceAdd, Nat.reduceMul, Nat.reduceSub, ↓reduceIte, Nat.reduceEqDiff]); rfl))) | (refine awpL_cons rfl ?_; ((first | (refine Stp_k 13 rfl ?_; ((refine Stp_append _ _ _ _ _ _ _ _ _ _ _ _ _ _ rfl rfl FRow.out (Src.row _ rfl FRow.out) HElem.out (by first | rfl | (simp; done) | fail) (fits _ _ (by omega) (by decide)) (fun ad cap => ?_)))) | (refine Stp_k 17 rfl ?_; ((refine Stp_buildSlice _ _ _ _ _ _ _ _ rfl HElem.out (by first | rfl | fail) rfl (by decide) rfl (fun b => ?_))))); apply awpL_cong; (case hT => ((try simp only [wtn, List.append_eq, List.foldl_cons, List.foldl_nil, List.map_cons, List.map_nil, Nat.reduceAdd, Nat.reduceMul, Nat.reduceSub, ↓reduceIte, Nat.reduceEqDiff]); rfl)); (case hH => ((try simp only [wtn, List.append_eq, List.foldl_cons, List.foldl_nil, List.map_cons, List.map_nil, Nat.reduceAdd, Nat.reduceMul, Nat.reduceSub, ↓reduceIte, Nat.reduceEqDiff]); rfl)))) | fail))
    · refine ⟨(i + 1, k3, js ++ [j], ad, cap), by simp only; omega, ⟨by simp only; omega, hk3, by simp only [List.length_append, List.length_cons, List.length_nil]; omega, fun x hx => ?_⟩, ?_⟩
      · rcases List.mem_append.1 hx with hx | hx
        · exact g4'.out x hx
        · rw [List.mem_singleton] at hx; subst hx; exact hj
      · simp only [jfa_app', List.length_append, List.length_cons, List.length_nil]
        exact Weak.mk' [_, _] [.row ad _ cap _ _ _, .box bd _] (List.Perm.trans (l₂ := [.row ad _ cap _ _ _, .box bd _] ++ [_, _]) (by (repeat' (first | exact List.Perm.refl _ | refine (List.perm_middle (l₁ := [_, _])).trans (List.Perm.cons _ ?_) | refine (List.perm_middle (l₁ := [_, _, _])).trans (List.Perm.cons _ ?_) | fail))) List.perm_append_comm) (VwHs.refl _ _) (by (repeat' (first | exact VwL.nil | (refine VwL.cons ?_ ?_) | exact Vw.refl _ | exact Vw.top _ | fail)))
    · refine ⟨(i + 1, k3, [j] ++ js, ad, cap), by simp only; omega, ⟨by simp only; omega, hk3, by simp only [List.length_append, List.length_cons, List.length_nil]; omega, fun x hx => ?_⟩, ?_⟩
      · rcases List.mem_append.1 hx with hx | hx
        · rw [List.mem_singleton] at hx; subst hx; exact hj
        · exact g4'.out x hx
      · simp only [jfa_app', List.length_append, List.length_cons, List.length_nil]
        exact Weak.mk' [_, _] [.row ad _ cap _ _ _, .box bd _] (List.Perm.trans (l₂ := [.row ad _ cap _ _ _, .box bd _] ++ [_, _]) (by (repeat' (first | exact List.Perm.refl _ | refine List.Perm.cons _ ?_ | refine (List.perm_middle (l₁ := [_])).trans (List.Perm.cons _ ?_) | fail))) List.perm_append_comm) (VwHs.refl _ _) (by (repeat' (first | exact VwL.nil | (refine VwL.cons ?_ ?_) | exact Vw.refl _ | exact Vw.top _ | fail)))
  · (repeat' (first | with_reducible (first | refine awp_seq ?_ | refine awp_region ?_ | refine awp_ret ?_ | refine awp_exit ?_ | refine awpL_nil ?_ | refine thenA_normal ?_ | refine thenA_exit ?_ | refine inBlockA_eq ?_) | (refine awp_cond _ rfl (fun h => ?_) (fun h => ?_) <;> ((try (simp only [whn] at h)); first | (exfalso; omega; done) | skip)) | ((apply awpL_evl2 rfl); (case h => ((try (intro (hp : (_ : Bool) = true); ((try simp only [Bool.and_eq_true, Bool.not_eq_true', Bool.not_eq_true] at hp); (try simp only [hp, wte]); (try simp only [whn] at hp)))); (first | (apply Evl_k 0 rfl; (first | exact Evl_mv _ rfl | exact Evl_as _ rfl)) | (apply Evl_x; (case hs => (intro _ _ h; cases h)); (case hx => rfl); (case hrun => (intro w; simp [wtb, AV.val, go_sem]; (try go_bits); rfl)))))); (case hT => ((try simp only [wtn, List.append_eq, List.foldl_cons, List.foldl_nil, List.map_cons, List.map_nil, Nat.reduceAdd, Nat.reduceMul, Nat.reduceSub, ↓reduceIte, Nat.reduceEqDiff]); rfl))) | fail))
    refine endA_ret _ _ (Res1 rfl (RV.tmp _) (Weak.mk' [_] [_] (List.Perm.refl _) (VwHs.refl _ _) (VwL.cons (Vw.row (List.Mem.head _) (VwL.refl _ _)) VwL.nil))) ⟨js, kk, rfl, rfl, g2, by omega, g4'.out⟩
end Go.Proofs.YtfaljkenmbbbaaaDoor
/- The tokens of a text, in plain Lean. No program in sight. -/
namespace Go.Proofs.YtfaljkenmbbbaaaDoor
open Go.RowKit
set_option linter.unusedSimpArgs false
set_option linter.unusedVariables false
/-- A letter, a digit, a digit of base 16. -/
def isLet (b : UInt8) : Bool := decide ((65 ≤ b.toNat ∧ b.toNat ≤ 90) ∨ (97 ≤ b.toNat ∧ b.toNat ≤ 122) ∨ b.toNat = 95)
def isDig (b : UInt8) : Bool := decide (48 ≤ b.toNat ∧ b.toNat ≤ 57)
def hexv (b : UInt8) : Option Nat :=
  if 48 ≤ b.toNat ∧ b.toNat ≤ 57 then some (b.toNat - 48)
  else if 97 ≤ b.toNat ∧ b.toNat ≤ 102 then some (b.toNat - 87)
  else if 65 ≤ b.toNat ∧ b.toNat ≤ 70 then some (b.toNat - 55) else none
theorem hexv_lt {b : UInt8} {n : Nat} (h : hexv b = some n) : n < 16 := by
  unfold hexv at h
  split at h
  · cases h; omega
  · split at h
    · cases h; omega
    · split at h
      · cases h; omega
      · cases h
/-- What stands behind a '\' in a string: its byte, and how many bytes stand for it. -/
def escd : List UInt8 → Option (UInt8 × Nat)
  | [] => none
  | d :: r =>
    if d.toNat = 34 ∨ d.toNat = 92 then some (d, 1) else if d.toNat = 110 then some (10, 1) else if d.toNat = 116 then some (9, 1)
    else if d.toNat = 120 then match r with
      | h :: l :: _ => match hexv h, hexv l with
        | some a, some b => some (UInt8.ofNat (16 * a + b), 3)
        | _, _ => none
      | _ => none
    else none
theorem escd_mark (d : UInt8) (r : List UInt8) (h : d.toNat = 34 ∨ d.toNat = 92) : escd (d :: r) = some (d, 1) := by simp only [escd, if_pos h]
theorem escd_n (d : UInt8) (r : List UInt8) (h : d.toNat = 110) : escd (d :: r) = some (10, 1) := by simp only [escd]; rw [if_neg (by omega), if_pos h]
theorem escd_t (d : UInt8) (r : List UInt8) (h : d.toNat = 116) : escd (d :: r) = some (9, 1) := by simp only [escd]; rw [if_neg (by omega), if_neg (by omega), if_pos h]
theorem escd_x (d a b : UInt8) (r : List UInt8) (h : d.toNat = 120) : escd (d :: a :: b :: r) = (hexv a).bind fun x => (hexv b).map fun y => (UInt8.ofNat (16 * x + y), 3) := by
  simp only [escd]; rw [if_neg (by omega), if_neg (by omega), if_neg (by omega), if_pos h]
  cases hexv a <;> cases hexv b <;> rfl
theorem escd_x1 (d a : UInt8) (h : d.toNat = 120) : escd [d, a] = none := by
  simp only [escd]; rw [if_neg (by omega), if_neg (by omega), if_neg (by omega), if_pos h]
theorem escd_x0 (d : UInt8) (h : d.toNat = 120) : escd [d] = none := by
  simp only [escd]; rw [if_neg (by omega), if_neg (by omega), if_neg (by omega), if_pos h]
theorem escd_no (d : UInt8) (r : List UInt8) (h : ¬(d.toNat = 34 ∨ d.toNat = 92 ∨ d.toNat = 110 ∨ d.toNat = 116 ∨ d.toNat = 120)) : escd (d :: r) = none := by
  simp only [escd]; rw [if_neg (by omega), if_neg (by omega), if_neg (by omega), if_neg (by omega)]
/-- A part of a string: its byte, and how many bytes stand for it. -/
def part : List UInt8 → Option (UInt8 × Nat)
  | [] => none
  | c :: r => if c.toNat < 32 ∨ c.toNat = 34 then none else if c.toNat ≠ 92 then some (c, 1) else (escd r).map fun x => (x.1, x.2 + 1)
theorem part_cons (c : UInt8) (r : List UInt8) : part (c :: r) = if c.toNat < 32 ∨ c.toNat = 34 then none else if c.toNat ≠ 92 then some (c, 1) else (escd r).map fun x => (x.1, x.2 + 1) := rfl
theorem escd_le {l : List UInt8} {b : UInt8} {n : Nat} (h : escd l = some (b, n)) : 1 ≤ n ∧ n ≤ 3 ∧ n ≤ l.length := by
  unfold escd at h
  split at h
  · cases h
  · split at h
    · cases h; simp
    · split at h
      · cases h; simp
      · split at h
        · cases h; simp
        · split at h
          · split at h
            · split at h
              · cases h; simp
              · cases h
            · cases h
          · cases h
theorem part_le {l : List UInt8} {b : UInt8} {n : Nat} (h : part l = some (b, n)) : 1 ≤ n ∧ n ≤ 4 ∧ n ≤ l.length := by
  unfold part at h
  split at h
  · cases h
  · split at h
    · cases h
    · split at h
      · cases h; simp
      · cases he : escd _ with
        | none => rw [he] at h; cases h
        | some x => rw [he] at h; cases h; have := escd_le he; simp; omega
/-- A string behind its first mark: its content, and how many bytes it has with the last mark. -/
def quo (l : List UInt8) : Option (List UInt8 × Nat) :=
  match l with
  | [] => none
  | c :: r =>
    if c.toNat = 34 then some ([], 1) else
    match part (c :: r) with
    | none => none
    | some x => (quo ((c :: r).drop (max x.2 1))).map fun y => (x.1 :: y.1, x.2 + y.2)
termination_by l.length
decreasing_by simp; omega
/-- A pattern behind its first slash. -/
def sla (l : List UInt8) : Option (List UInt8 × Nat) :=
  match l with
  | [] => none
  | c :: r =>
    if c.toNat = 47 then some ([], 1) else if c.toNat < 32 then none
    else if c.toNat = 92 then
      match r with
      | [] => none
      | d :: r => if d.toNat < 32 then none else if d.toNat = 47 then (sla r).map fun x => (d :: x.1, 2 + x.2) else (sla r).map fun x => (c :: d :: x.1, 2 + x.2)
    else (sla r).map fun x => (c :: x.1, 1 + x.2)
/-- How many bytes at the beginning are of a word, of a number. -/
def spn (p : UInt8 → Bool) (l : List UInt8) : Nat := (l.takeWhile p).length
def isWrd (b : UInt8) : Bool := isDig b || (isLet b || decide (b.toNat = 45))
/-- A token at the beginning of a text: its kind, its content, its bytes; or the error. -/
def one : List UInt8 → Except Int (Int × List UInt8 × Nat)
  | [] => .error 50
  | c :: r =>
    if isLet c then .ok (1, (c :: r).take (spn isWrd (c :: r)), spn isWrd (c :: r))
    else if isDig c then
      if 18 < spn isDig (c :: r) ∨ 1 < spn isDig (c :: r) ∧ c.toNat = 48 then .error 53 else .ok (2, (c :: r).take (spn isDig (c :: r)), spn isDig (c :: r))
    else if c.toNat = 34 then match quo r with
      | none => .error 51
      | some x => .ok (3, x.1, x.2 + 1)
    else if c.toNat = 47 then match sla r with
      | none => .error 52
      | some x => .ok (4, x.1, x.2 + 1)
    else if c.toNat = 123 ∨ c.toNat = 125 ∨ c.toNat = 44 ∨ c.toNat = 61 then .ok (5, [c], 1)
    else .error 50
/-- How many bytes are ahead of the next line's end. -/
def cmt : List UInt8 → Nat
  | [] => 0
  | c :: r => if c.toNat = 10 then 0 else cmt r + 1
/-- How many bytes of blanks and comments are at the beginning. -/
def skp : List UInt8 → Nat
  | [] => 0
  | c :: r =>
    if c.toNat = 32 ∨ c.toNat = 9 ∨ c.toNat = 10 ∨ c.toNat = 13 then skp r + 1
    else if c.toNat = 35 then cmt (c :: r) + skp ((c :: r).drop (max (cmt (c :: r)) 1))
    else 0
termination_by l => l.length
decreasing_by
  · simp
  · simp; omega
theorem cmt_le (l : List UInt8) : cmt l ≤ l.length := by
  induction l with
  | nil => simp [cmt]
  | cons c r ih => simp only [cmt]; split <;> simp; omega
theorem cmt_yes (c : UInt8) (r : List UInt8) (h : c.toNat ≠ 10) : cmt (c :: r) = cmt r + 1 := by simp only [cmt, if_neg h]
theorem cmt_no (c : UInt8) (r : List UInt8) (h : c.toNat = 10) : cmt (c :: r) = 0 := by simp only [cmt, if_pos h]
theorem skp_nil : skp [] = 0 := by rw [skp]
theorem skp_blank (c : UInt8) (r : List UInt8) (h : c.toNat = 32 ∨ c.toNat = 9 ∨ c.toNat = 10 ∨ c.toNat = 13) : skp (c :: r) = skp r + 1 := by rw [skp, if_pos h]
theorem skp_cmt (c : UInt8) (r : List UInt8) (h : c.toNat = 35) : skp (c :: r) = cmt (c :: r) + skp ((c :: r).drop (cmt (c :: r))) := by
  rw [skp, if_neg (by omega), if_pos h, show max (cmt (c :: r)) 1 = cmt (c :: r) from by rw [cmt_yes _ _ (by omega)]; omega]
theorem skp_no (c : UInt8) (r : List UInt8) (h : ¬(c.toNat = 32 ∨ c.toNat = 9 ∨ c.toNat = 10 ∨ c.toNat = 13)) (h2 : c.toNat ≠ 35) : skp (c :: r) = 0 := by rw [skp, if_neg h, if_neg h2]
/-- Line and column, behind more bytes. -/
def plc (p : Nat × Nat) : List UInt8 → Nat × Nat
  | [] => p
  | c :: r => plc (if c.toNat = 10 then (p.1 + 1, 1) else (p.1, p.2 + 1)) r
structure Tok where
  kind : Int
  text : List UInt8
  line : Nat
  col : Nat
structure Flt where
  code : Int
  line : Nat
  col : Nat
/-- The tokens of a text, or its fault: behind n tokens, at a place. -/
def lexGo (p : Nat × Nat) (n : Nat) (l : List UInt8) : Except Flt (List Tok) :=
  match h : l.drop (skp l) with
  | [] => .ok [⟨6, [], (plc p l).1, (plc p l).2⟩]
  | c :: r =>
    match one (c :: r) with
    | .error e => .error ⟨e, (plc p (l.take (skp l))).1, (plc p (l.take (skp l))).2⟩
    | .ok x => if 2000 ≤ n then .error ⟨1, (plc p (l.take (skp l))).1, (plc p (l.take (skp l))).2⟩
      else (lexGo (plc p (l.take (skp l + x.2.2))) (n + 1) ((c :: r).drop (max x.2.2 1))).map (⟨x.1, x.2.1, (plc p (l.take (skp l))).1, (plc p (l.take (skp l))).2⟩ :: ·)
termination_by l.length
decreasing_by
  have := congrArg List.length h
  simp at *; omega
def lex (l : List UInt8) : Except Flt (List Tok) := if 8192 < l.length then .error ⟨1, 0, 0⟩ else lexGo (1, 1) 0 l
end Go.Proofs.YtfaljkenmbbbaaaDoor
/- bytes.Clone, slices.Grow of nil, slices.Concat of two: what they return, and that they write nothing that was there. -/
namespace Go.Proofs.YtfaljkenmbbbaaaDoor
open Go.RowKit
set_option linter.unusedSimpArgs false
set_option linter.unusedVariables false
theorem elB : ElemAt Tryd.prog 38 5 (.int .u8 0) 1 1 := ⟨Tryd.underlying38, by kernel_rfl, rfl, by decide⟩

theorem info8 : (Tryd.prog.info? 5).map (fun i => (i.zero, i.size, i.bytes)) = some (some (.int .u8 0), 1, 1) := by kernel_rfl
end Go.Proofs.YtfaljkenmbbbaaaDoor
