import Derived.Test.YtkhhlmonhapmaaaGreatDoorW8
/- A job, whole: its cells. -/
set_option linter.unusedSimpArgs false
set_option linter.unusedVariables false
namespace Go.Proofs.YtkhhlmonhapmaaaGreatDoor
open Go.RowKit
def ea (l : List (List UInt8 × List UInt8)) : List AV := l.flatMap fun s => [.x (.string (bs s.1)), .x (.string (bs s.2))]
@[simp] theorem ea_len (l : List (List UInt8 × List UInt8)) : (ea l).length = l.length * 2 := by
  induction l with
  | nil => rfl
  | cons j l ih => simp only [ea, List.flatMap_cons, List.length_append, List.length_cons] at ih ⊢; rw [ih]; simp; omega
theorem ea_app (l m : List (List UInt8 × List UInt8)) : ea (l ++ m) = ea l ++ ea m := by simp [ea]
structure JF where
  name : List UInt8
  run : List UInt8
  env : List (List UInt8 × List UInt8)
  needs : List (List UInt8)
  hasr : Bool
  ready : List UInt8
  restart : Int
  base : Int
  cap : Int
  stable : Int
  burst : Int
  window : Int
  ladder : List (Int × Int)
  line : Int
  col : Int
def JF.cells (j : JF) : List AV := [.x (.string (bs j.name)), .x (.string (bs j.run)), .sq j.env.length (ea j.env), .sq j.needs.length (sa j.needs), .x (.bool j.hasr), .x (.string (bs j.ready)), .x (.int .i64 j.restart), .x (.int .u64 j.base), .x (.int .u64 j.cap), .x (.int .u64 j.stable), .x (.int .i64 j.burst), .x (.int .u64 j.window), .sq j.ladder.length (ra j.ladder), .x (.int .i64 j.line), .x (.int .i64 j.col)]
def U64 (v : Int) : Prop := 0 ≤ v ∧ v ≤ 18446744073709551615
structure JSmall (j : JF) : Prop where
  name : j.name.length ≤ 8
  run : j.run.length ≤ 16
  env : j.env.length ≤ 2
  enve : ∀ p ∈ j.env, p.1.length ≤ 8 ∧ p.2.length ≤ 8
  needs : j.needs.length ≤ 4
  neede : ∀ s ∈ j.needs, s.length ≤ 8
  ready : j.ready.length ≤ 16
  ladder : j.ladder.length ≤ 4
  laddere : ∀ p ∈ j.ladder, U64 p.2
  base : U64 j.base
  cap : U64 j.cap
  stable : U64 j.stable
  window : U64 j.window
  burst : -9223372036854775808 ≤ j.burst ∧ j.burst ≤ 9223372036854775807
theorem ea_drop (l : List (List UInt8 × List UInt8)) (k : Nat) (h : k < l.length) : (ea l).drop (k * 2) = .x (.string (bs l[k].1)) :: .x (.string (bs l[k].2)) :: ea (l.drop (k + 1)) := by
  induction l generalizing k with
  | nil => simp at h
  | cons j l ih =>
    cases k with
    | zero => simp [ea]
    | succ k =>
      simp only [ea, List.flatMap_cons, List.drop_succ_cons, List.getElem_cons_succ] at ih ⊢
      rw [show (k + 1) * 2 = 2 + k * 2 from by omega, ← List.drop_drop]
      exact ih k (by simpa using h)
theorem ra_drop (l : List (Int × Int)) (k : Nat) (h : k < l.length) : (ra l).drop (k * 2) = .x (.int .i64 l[k].1) :: .x (.int .u64 l[k].2) :: ra (l.drop (k + 1)) := by
  induction l generalizing k with
  | nil => simp at h
  | cons j l ih =>
    cases k with
    | zero => simp [ra]
    | succ k =>
      simp only [ra, List.flatMap_cons, List.drop_succ_cons, List.getElem_cons_succ] at ih ⊢
      rw [show (k + 1) * 2 = 2 + k * 2 from by omega, ← List.drop_drop]
      exact ih k (by simpa using h)
def jfa (l : List JF) : List AV := l.flatMap JF.cells
@[simp] theorem jfa_len (l : List JF) : (jfa l).length = l.length * 15 := by
  induction l with
  | nil => rfl
  | cons j l ih => simp only [jfa, List.flatMap_cons, List.length_append, List.length_cons] at ih ⊢; rw [ih]; simp [JF.cells]; omega
theorem jfa_drop (l : List JF) (k : Nat) (h : k < l.length) : (jfa l).drop (k * 15) = l[k].cells ++ jfa (l.drop (k + 1)) := by
  induction l generalizing k with
  | nil => simp at h
  | cons j l ih =>
    cases k with
    | zero => simp [jfa]
    | succ k =>
      simp only [jfa, List.flatMap_cons, List.drop_succ_cons, List.getElem_cons_succ] at ih ⊢
      rw [show (k + 1) * 15 = j.cells.length + k * 15 from by simp [JF.cells]; omega, ← List.drop_drop, List.drop_append_length]
      exact ih k (by simpa using h)
theorem jfa_drop' (l : List JF) (k : Nat) (h : k < l.length) : (jfa l).drop (k * 15) = .x (.string (bs l[k].name)) :: .x (.string (bs l[k].run)) :: .sq l[k].env.length (ea l[k].env) :: .sq l[k].needs.length (sa l[k].needs) :: .x (.bool l[k].hasr) :: .x (.string (bs l[k].ready)) :: .x (.int .i64 l[k].restart) :: .x (.int .u64 l[k].base) :: .x (.int .u64 l[k].cap) :: .x (.int .u64 l[k].stable) :: .x (.int .i64 l[k].burst) :: .x (.int .u64 l[k].window) :: .sq l[k].ladder.length (ra l[k].ladder) :: .x (.int .i64 l[k].line) :: .x (.int .i64 l[k].col) :: jfa (l.drop (k + 1)) := jfa_drop l k h
end Go.Proofs.YtkhhlmonhapmaaaGreatDoor
namespace Go.Proofs.YtkhhlmonhapmaaaGreatDoor
open Go.RowKit
theorem dm_end_alloc {P : Program} {B : List Hp} {l : List Oper} {L D : List Nat} {i d : Nat} {z : List AV} {Q : Post} {k : Nat} {T : List AV} {H : List Hp} (hd : (nthO l i).bind (·.dst) = some d) (h : ∀ b, awpA P l.toArray Q k (allBut l.length D) (T.set d (.x (.pointer (some ⟨b, 0, none⟩)))) (B ++ (.box b z :: H))) : dm P B l L [] T H (finM P B l D (some i) z Q k) :=
  dm_end_some fun b => by rw [hd]; exact h b
end Go.Proofs.YtkhhlmonhapmaaaGreatDoor
namespace Go.Proofs.YtkhhlmonhapmaaaGreatDoor
open Go.RowKit
def runs : List (List UInt8) := [[120], [114, 117, 110, 32, 105, 116], [97, 32, 34, 98, 34, 10], []]
theorem pick_runs {v : Nat} (h : v < 4) : (List.drop v [.x (.string ⟨#[120]⟩), .x (.string ⟨#[114, 117, 110, 32, 105, 116]⟩), .x (.string ⟨#[97, 32, 34, 98, 34, 10]⟩), .x (.string ⟨#[]⟩)]).getD 0 AV.top = .x (.string (bs (runs.getD v []))) := pick_sa runs v h
theorem pick_pats {v : Nat} (h : v < 7) : (List.drop v (sa pats)).getD 0 AV.top = .x (.string (bs (pats.getD v []))) := pick_sa pats v h
@[simp] theorem pats_len : pats.length = 7 := rfl
def sigs : List Int := [15, 2, 1]
theorem pick_sigs {v : Nat} (h : v < 3) : (List.drop v [.x (.int .i64 15), .x (.int .i64 2), .x (.int .i64 1)]).getD 0 AV.top = .x (.int .i64 (sigs.getD v 0)) := by
  match v, h with
  | 0, _ => rfl
  | 1, _ => rfl
  | 2, _ => rfl
def envs : List (List UInt8 × List UInt8) := [([80], [49]), ([81], [0, 32, 113])]
theorem env_eq {v : Nat} (h : v ≤ 2) : AV.sq (v - 0) (List.take ((v - 0) * 2) [.x (.string ⟨#[80]⟩), .x (.string ⟨#[49]⟩), .x (.string ⟨#[81]⟩), .x (.string ⟨#[0, 32, 113]⟩)]) = .sq (envs.take v).length (ea (envs.take v)) := by
  match v, h with
  | 0, _ => rfl
  | 1, _ => rfl
  | 2, _ => rfl
def EnvOk (env : List (List UInt8 × List UInt8)) : Prop := env.length ≤ 2 ∧ ∀ p ∈ env, p.1.length ≤ 8 ∧ p.2.length ≤ 8
theorem envs_ok (v : Nat) : EnvOk (envs.take v) := by
  refine ⟨by simp [envs]; omega, fun p hp => ?_⟩
  have := List.mem_of_mem_take hp
  simp only [envs, List.mem_cons, List.not_mem_nil, or_false] at this
  rcases this with rfl | rfl <;> simp
structure JMill (name : List UInt8) (others : List (List UInt8)) (j : JF) : Prop where
  small : JSmall j
  name : j.name = name
  run : j.run ∈ runs
  env : ∃ v, v ≤ 2 ∧ j.env = envs.take v
  needs : j.needs.Sublist others
  ready : (j.hasr = true ∧ j.ready ∈ pats) ∨ (j.hasr = false ∧ j.ready = [])
  restart : j.restart = 1 ∨ j.restart = 2 ∨ j.restart = 3
  base : 0 ≤ j.base ∧ j.base ≤ 1000
  cap : 0 ≤ j.cap ∧ j.cap ≤ 1000
  stable : 0 ≤ j.stable ∧ j.stable ≤ 1000
  window : 0 ≤ j.window ∧ j.window ≤ 1000
  burst : 1 ≤ j.burst ∧ j.burst ≤ 4
  ladder : j.ladder ≠ [] ∧ j.ladder.length ≤ 3
  laddere : ∀ p ∈ j.ladder, p.1 ∈ sigs ∧ 0 ≤ p.2 ∧ p.2 ≤ 1000
theorem getD_mem {α : Type} (l : List α) (d : α) (v : Nat) (h : v < l.length) : l.getD v d ∈ l := by
  rw [List.getD_eq_getElem?_getD, List.getElem?_eq_getElem h]; exact List.getElem_mem h
set_option maxRecDepth 100000 in
set_option maxHeartbeats 8000000 in
theorem mjob_x (bd : Nat) (l : List Int) (k : Nat) (hd : DK l) (hk : k ≤ l.length) (name : List UInt8) (others : List (List UInt8)) (hn : name.length ≤ 8) (ho : others.length ≤ 4) (hos : ∀ s ∈ others, s.length ≤ 8) :
    Spec Tryz.prog 46 [.box bd [.sq l.length (ia l), .x (.int .i64 k)]] [.x (.pointer (some ⟨bd, 0, none⟩)), .x (.string (bs name)), .sq others.length (sa others)] (fun r H' => ∃ (j : JF) (k' : Nat), r = .agg j.cells ∧ H' = [.box bd [.sq l.length (ia l), .x (.int .i64 k')]] ∧ k' ≤ l.length ∧ JMill name others j) := by
  have hos' := Lib.hid hos
  clear hos
  refine Spec_of Tryz.func46 rfl ?_
  simp only [Tryz.ntmps46, List.length_cons, List.length_nil, List.replicate_succ, List.replicate_zero, List.cons_append, List.nil_append, Nat.reduceAdd, Nat.reduceSub]
  (repeat' (first | with_reducible (first | refine awp_seq ?_ | refine awp_region ?_ | refine awpL_nil ?_ | refine thenA_normal ?_) | (refine awpL_cons rfl ?_; (((refine Stp_k 14 rfl ?_; ((refine Stp_alloc _ _ rfl HZero.out rfl (fun b => ?_))))); apply awpL_cong; (case hT => ((try simp only [wtn]); rfl)); (case hH => ((try simp only [wtn]); rfl)))) | fail))
  refine awp_mix (B := [_]) (R := [_]) mixed [0, 1, 2, 6, 8, 11, 14, 16, 3, 4, 5, 7, 9, 10, 12, 13, 15, 17, 18, 19] [3, 7, 9, 12, 15, 17] [21] (some 20) _ 1 (List.Perm.refl _) (by decide +kernel) rfl (mix_alloc rfl rfl rfl HZero.out rfl rfl) (by decide) ?_
  (repeat' (first | (apply dm_quiet rfl rfl; (case h => (intro H1; (try simp only [List.cons_append, List.nil_append]); (first | (apply Evl_k 0 rfl; (exact Evl_mv _ rfl)) | (apply Evl_k 6 rfl; (exact Evl_load_at _ _ _ _ _ rfl rfl HAgg.out (by first | (simp [wlq]; omega) | fail) (by first | (simp [wlq]; omega) | fail))) | (apply Evl_k 7 rfl; (exact Evl_index_sq _ _ _ _ _ _ _ _ _ _ rfl rfl rfl HEl.out rfl (by first | omega | fail) (by simp; first | done | fail))) | (apply Evl_k 10 rfl; (exact Evl_build1 _ _ _ _ rfl HPl.out (by decide) rfl (by simp [wtb, AV.one, Value.oneCell']))) | (apply Evl_k 17 rfl; (exact Evl_rowall _ _ _ _ _ _ rfl HElem.out rfl (by first | rfl | fail) rfl rfl (by decide))) | (apply Evl_x; (case hs => (intro _ _ h; cases h)); (case hx => rfl); (case hrun => (intro w; simp [wtb, AV.val, go_sem]; (try go_bits); rfl)))))); (case hT => ((try simp (disch := assumption) only [wtn, pick_runs, List.append_eq, List.foldl_cons, List.foldl_nil, List.map_cons, List.map_nil, Nat.reduceAdd, Nat.reduceMul, Nat.reduceSub, ↓reduceIte, Nat.reduceEqDiff]); rfl))) | (apply dm_loud rfl rfl; ((refine Stp_k 11 rfl ?_; (first | (refine Stp_call 19 Tryz.f19 [_] _ _ _ rfl rfl Tryz.func19 (by decide) rfl (List.Perm.refl _) (VwL.refl _ _) (next_w _ l k 4 hd hk (by omega) (by omega)) ?_; rintro _ _ ⟨v1, k1, rfl, rfl, hv1, hk1⟩) | (refine Stp_call 45 Tryz.f45 [_] _ _ _ rfl rfl Tryz.func45 (by decide) rfl (List.Perm.refl _) (VwL.refl _ _) (range_w _ l k1 1 3 hd hk1 (by omega) (by omega)) ?_; rintro _ _ ⟨v2, k2, rfl, rfl, hv2, hv2', hk2⟩) | (refine Stp_call 19 Tryz.f19 [_] _ _ _ rfl rfl Tryz.func19 (by decide) rfl (List.Perm.refl _) (VwL.refl _ _) (next_w _ l k2 6 hd hk2 (by omega) (by omega)) ?_; rintro _ _ ⟨v3, k3, rfl, rfl, hv3, hk3⟩) | (refine Stp_call 19 Tryz.f19 [_] _ _ _ rfl rfl Tryz.func19 (by decide) rfl (List.Perm.refl _) (VwL.refl _ _) (next_w _ l k3 20 hd hk3 (by omega) (by omega)) ?_; rintro _ _ ⟨v4, k4, rfl, rfl, hv4, hk4⟩) | (refine Stp_call 45 Tryz.f45 [_] _ _ _ rfl rfl Tryz.func45 (by decide) rfl (List.Perm.refl _) (VwL.refl _ _) (range_w _ l k4 1 4 hd hk4 (by omega) (by omega)) ?_; rintro _ _ ⟨v5, k5, rfl, rfl, hv5, hv5', hk5⟩) | (refine Stp_call 45 Tryz.f45 [_] _ _ _ rfl rfl Tryz.func45 (by decide) rfl (List.Perm.refl _) (VwL.refl _ _) (range_w _ l k5 1 30 hd hk5 (by omega) (by omega)) ?_; rintro _ _ ⟨v6, k6, rfl, rfl, hv6, hv6', hk6⟩)))); refine ⟨_, rfl, ?_⟩; apply dm_cong; (case hT => ((try simp (disch := omega) only [wtn, pick_runs, List.append_eq, List.foldl_cons, List.foldl_nil, List.map_cons, List.map_nil, Nat.reduceAdd, Nat.reduceMul, Nat.reduceSub, ↓reduceIte, Nat.reduceEqDiff]); rfl)); (case hH => ((try simp (disch := omega) only [wtn, pick_runs, List.append_eq, List.foldl_cons, List.foldl_nil, List.map_cons, List.map_nil, Nat.reduceAdd, Nat.reduceMul, Nat.reduceSub, ↓reduceIte, Nat.reduceEqDiff]); rfl))) | fail))
  (first | (refine dm_end_alloc rfl (fun b => ?_)) | fail); (apply awpA_cong; (case hT => ((try simp only [wtn]); rfl)); (case hH => (simp only [List.cons_append, List.nil_append]; rfl))); (refine awpA_1 21 (by decide +kernel) rfl rfl ?_; (first | (((refine Stp_k 16 rfl ?_; ((refine Stp_store _ _ _ _ _ _ _ rfl rfl FBox.out HSize.out (by first | rfl | fail) (by first | exact Nat.le_of_ble_eq_true rfl | fail) ?_)))); apply awpA_cong; (case hT => ((try simp only [wtn]); rfl)); (case hH => ((try simp only [wtn, Nat.reduceAdd]); rfl))) | fail)); refine awpA_done (by decide +kernel) ?_
  (repeat' (first | with_reducible (first | refine awp_seq ?_ | refine thenA_normal ?_) | fail))
  refine awp_mix (B := [_, _]) (R := [_]) mixed [0, 1, 2, 3, 4, 5] [3] [6, 7] none [] 2 (List.Perm.refl _) (by decide +kernel) rfl (fun i o h => by cases h) (by decide) ?_
  (repeat' (first | (apply dm_quiet rfl rfl; (case h => (intro H1; (try simp only [List.cons_append, List.nil_append]); (first | (apply Evl_k 0 rfl; (exact Evl_mv _ rfl)) | (apply Evl_k 5 rfl; (exact Evl_field_x _ _ _ _ _ _ rfl rfl HFld.out)) | (apply Evl_k 6 rfl; (exact Evl_load _ _ _ _ _ _ _ _ rfl rfl FBox.out HAgg.out (by first | exact Nat.le_of_ble_eq_true rfl | fail) (by first | exact Nat.le_of_ble_eq_true rfl | fail))) | (apply Evl_x; (case hs => (intro _ _ h; cases h)); (case hx => rfl); (case hrun => (intro w; simp [wtb, AV.val, go_sem]; (try go_bits); rfl)))))); (case hT => ((try simp only [wtn]); rfl))) | (apply dm_loud rfl rfl; ((refine Stp_k 11 rfl ?_; ((refine Stp_call 19 Tryz.f19 [_] _ _ _ rfl rfl Tryz.func19 (by decide) rfl (List.Perm.refl _) (VwL.refl _ _) (next_w _ l k6 20 hd hk6 (by omega) (by omega)) ?_; rintro _ _ ⟨v7, k7, rfl, rfl, hv7, hk7⟩)))); refine ⟨_, rfl, ?_⟩; apply dm_cong; (case hT => ((try simp only [wtn]); rfl)); (case hH => ((try simp only [wtn]); rfl))) | fail))
  (first | refine dm_end_none ?_ | fail); (apply awpA_cong; (case hT => rfl); (case hH => (simp only [List.cons_append, List.nil_append]; rfl))); (repeat ((first | refine awpA_1 6 (by decide +kernel) rfl rfl ?_ | refine awpA_1 7 (by decide +kernel) rfl rfl ?_ | fail); (first | (apply Stp_evl; (case h => ((apply Evl_k 5 rfl; (exact Evl_field_x _ _ _ _ _ _ rfl rfl HFld.out)))); (apply awpA_cong; (case hT => ((try simp only [wtn]); rfl)); (case hH => rfl))) | (((refine Stp_k 16 rfl ?_; ((refine Stp_store _ _ _ _ _ _ _ rfl rfl FBox.out HSize.out (by first | rfl | fail) (by first | exact Nat.le_of_ble_eq_true rfl | fail) ?_)))); apply awpA_cong; (case hT => ((try simp only [wtn]); rfl)); (case hH => ((try simp only [wtn]); rfl))) | fail))); refine awpA_done (by decide +kernel) ?_
  (repeat' (first | with_reducible (first | refine awp_seq ?_ | refine awp_region ?_ | refine awp_block ?_ | refine awp_skip ?_ | refine awpL_nil ?_ | refine thenA_normal ?_) | (refine awp_cond _ rfl (fun h => ?_) (fun h => ?_) <;> ((try (simp only [whn] at h)); skip)) | ((apply awpL_evl2 rfl); (case h => ((first | (apply Evl_k 0 rfl; (exact Evl_mv _ rfl)) | (apply Evl_k 3 rfl; (exact Evl_len _ _ _ _ _ _ HEl.out rfl rfl)) | (apply Evl_k 5 rfl; (exact Evl_field_x _ _ _ _ _ _ rfl rfl HFld.out)) | (apply Evl_k 9 rfl; (exact Evl_slice_sq _ _ _ _ _ _ _ _ _ _ rfl rfl HEl.out (by first | exact .inl ⟨rfl, rfl⟩ | fail) (by first | exact .inr ⟨_, _, rfl, rfl⟩ | fail) (by omega) (by omega))) | (apply Evl_k 10 rfl; (exact Evl_build _ _ _ _ _ rfl HPl.out (by first | rfl | fail) rfl)) | (apply Evl_k 17 rfl; (exact Evl_rowsq _ _ _ _ _ _ _ _ rfl HElem.out (by first | rfl | fail) rfl (by decide) rfl)) | (apply Evl_x; (case hs => (intro _ _ h; cases h)); (case hx => rfl); (case hrun => (intro w; simp [wtb, AV.val, go_sem]; skip; rfl)))))); (case hT => ((try simp only [wtn, Nat.reduceAdd, Nat.reduceMul, ↓reduceIte]); rfl))) | (refine awpL_cons rfl ?_; ((first | (refine Stp_k 11 rfl ?_; (first | (refine Stp_call 19 Tryz.f19 [_] _ _ _ rfl rfl Tryz.func19 (by decide) rfl (List.perm_middle (l₁ := [_, _])) (VwL.refl _ _) (next_w _ l k7 4 hd hk7 (by omega) (by omega)) ?_; rintro _ _ ⟨v8, k8, rfl, rfl, hv8, hk8⟩) | (refine Stp_call 45 Tryz.f45 [_] _ _ _ rfl rfl Tryz.func45 (by decide) rfl (List.Perm.refl _) (VwL.refl _ _) (range_w _ l k8 1 2 hd hk8 (by omega) (by omega)) ?_; rintro _ _ ⟨v9, k9, rfl, rfl, hv9, hv9', hk9⟩))) | (refine Stp_k 16 rfl ?_; ((refine Stp_store _ _ _ _ _ _ _ rfl rfl FBox.out HSize.out (by first | rfl | fail) (by first | exact Nat.le_of_ble_eq_true rfl | fail) ?_)))); apply awpL_cong; (case hT => ((try simp only [wtn]); rfl)); (case hH => ((try simp only [wtn, List.append_eq, Nat.reduceAdd]); rfl)))) | fail))
  all_goals
    first
      | (have hEs := envs_ok v9; have he := env_eq hv9'; generalize hgen : envs.take v9 = env at he hEs)
      | (have hEs : EnvOk [] := ⟨Nat.zero_le _, by simp⟩; generalize hgen : ([] : List (List UInt8 × List UInt8)) = env at hEs)
    have hEv' : Hid (∃ v, v ≤ 2 ∧ env = envs.take v) := Lib.hid (by first | exact ⟨v9, hv9', hgen.symm⟩ | exact ⟨0, by decide, hgen.symm⟩ | fail)
    rename_i ob
    obtain ⟨jb, rfl⟩ : ∃ x, x = b := ⟨b, rfl⟩
    refine awp_nilrow 9 1 ?_
    apply awp_loopS (S := Nat × Nat × List (List UInt8) × Option Addr × Nat) (fun s => frm 95 [(0, .x (.pointer (some ⟨bd, 0, none⟩))), (6, .x (.pointer (some ⟨ob, 0, none⟩))), (7, .x (.pointer (some ⟨jb, 0, none⟩))), (48, .sq others.length (sa others)), (49, .x (.int .i64 others.length)), (50, .x (.int .i64 s.1))])
      (fun s => [.row s.2.2.2.1 s.2.2.1.length s.2.2.2.2 9 1 (sa s.2.2.1), .box bd [.sq l.length (ia l), .x (.int .i64 s.2.1)], .box ob [.x (.string ⟨#[]⟩), .x (.string ⟨#[]⟩), .x (.slice none 0 0), .x (.slice none 0 0), .x (.bool false), .x (.string ⟨#[]⟩), .x (.int .i64 0), .x (.int .u64 0), .x (.int .u64 0), .x (.int .u64 0), .x (.int .i64 0), .x (.int .u64 0), .x (.slice none 0 0), .x (.int .i64 0), .x (.int .i64 0)], .box jb [.x (.string (bs name)), .x (.string (bs (runs.getD v1 []))), .sq env.length (ea env), .x (.slice s.2.2.2.1 s.2.2.1.length s.2.2.2.2), .x (.bool false), .x (.string ⟨#[]⟩), .x (.int .i64 v2), .x (.int .u64 v3), .x (.int .u64 ((v3 : Int) + v7)), .x (.int .u64 v4), .x (.int .i64 v5), .x (.int .u64 v6), .x (.slice none 0 0), .x (.int .i64 0), .x (.int .i64 0)]])
      (fun s => s.1 ≤ others.length ∧ s.2.1 ≤ l.length ∧ s.2.2.1.length ≤ s.1 ∧ (∀ x ∈ s.2.2.1, x.length ≤ 8) ∧ s.2.2.1.Sublist (others.take s.1)) (fun s => others.length - s.1) (0, _, [], none, 0)
    case h0 => exact Weak.mk' [] [_, _, _, _] (List.Perm.refl _) (VwHs.cons (VwH.refl _ _) (VwHs.cons (VwH.refl _ _) (VwHs.cons (VwH.refl _ _) (VwHs.cons (VwH.box _ (by (repeat' (first | exact VwL.nil | apply VwL.cons | exact Vw.refl _ | exact Vw.eq he | exact (hgen ▸ Vw.nil) | fail)))) VwHs.nil)))) (by (repeat' (first | exact VwL.nil | (refine VwL.cons ?_ ?_) | exact Vw.refl _ | exact Vw.top _ | fail)))
    case hi => exact ⟨Nat.zero_le _, by assumption, Nat.zero_le _, by simp, by simp⟩
    rintro ⟨i, kk, ns, ad, cap⟩ ⟨g1, g2, g3, g4, g5⟩
    simp only at g1 g2 g3 g4 g5
    have g4' := Lib.hid g4
    have g5' := Lib.hid g5
    clear g4 g5
    simp only [frm, List.replicate_succ, List.replicate_zero, List.foldl_cons, List.foldl_nil, List.set_cons_zero, List.set_cons_succ]
    by_cases hlt : i < others.length
    · have hq := hos'.out others[i] (List.getElem_mem hlt)
      (repeat' (first | with_reducible (first | refine awp_seq ?_ | refine awp_region ?_ | refine awp_block ?_ | refine awp_skip ?_ | refine awpL_nil ?_ | refine thenA_normal ?_ | refine inBlockA_normal ?_) | (refine awp_cond _ rfl (fun h => ?_) (fun h => ?_) <;> ((try (simp only [whn] at h)); first | (exfalso; omega; done) | skip)) | ((apply awpL_evl2 rfl); (case h => ((first | (apply Evl_k 0 rfl; (first | exact Evl_mv _ rfl | exact Evl_as _ rfl)) | (apply Evl_k 5 rfl; (exact Evl_field_x _ _ _ _ _ _ rfl rfl HFld.out)) | (apply Evl_k 6 rfl; (first | exact Evl_load_at _ _ _ _ _ rfl rfl HAgg.out (by first | exact Nat.le_of_ble_eq_true rfl | fail) (by first | exact Nat.le_of_ble_eq_true rfl | fail) | exact Evl_load _ _ _ _ _ _ _ _ rfl rfl FBox.out HAgg.out (by first | exact Nat.le_of_ble_eq_true rfl | fail) (by first | exact Nat.le_of_ble_eq_true rfl | fail))) | (apply Evl_k 7 rfl; (exact Evl_index_sq _ _ _ _ _ _ _ _ _ _ rfl rfl rfl HEl.out rfl (by first | omega | fail) (by simp; first | omega | fail))) | (apply Evl_x; (case hs => (intro _ _ h; cases h)); (case hx => rfl); (case hrun => (intro w; simp [wtb, AV.val, go_sem]; (try go_bits); rfl)))))); (case hT => ((try simp (disch := assumption) only [wtn, sa_drop, List.append_eq, List.foldl_cons, List.foldl_nil, List.map_cons, List.map_nil, Nat.reduceAdd, Nat.reduceMul, Nat.reduceSub, ↓reduceIte, Nat.reduceEqDiff]); rfl))) | (refine awpL_cons rfl ?_; ((first | (refine Stp_k 11 rfl ?_; ((refine Stp_call 19 Tryz.f19 [_] _ _ _ rfl rfl Tryz.func19 (by decide) rfl (List.perm_middle (l₁ := [_])) (VwL.refl _ _) (next_w _ l kk 3 hd g2 (by omega) (by omega)) ?_; rintro _ _ ⟨u1, k11, rfl, rfl, hu1, hk11⟩))) | (refine Stp_k 13 rfl ?_; ((refine Stp_append _ _ _ _ _ _ _ _ _ _ _ _ _ _ rfl rfl FRow.out (Src.row _ rfl FRow.out) HElem.out (by first | rfl | fail) (fits _ _ (by omega) (by decide)) (fun ad cap => ?_)))) | (refine Stp_k 16 rfl ?_; ((refine Stp_store _ _ _ _ _ _ _ rfl rfl FBox.out HSize.out (by first | rfl | fail) (by first | exact Nat.le_of_ble_eq_true rfl | fail) ?_))) | (refine Stp_k 17 rfl ?_; ((refine Stp_buildSlice _ _ _ _ _ _ _ _ rfl HElem.out (by first | rfl | fail) rfl (by decide) rfl (fun b => ?_))))); apply awpL_cong; (case hT => ((try simp (disch := omega) only [wtn, sa_drop, List.append_eq, List.foldl_cons, List.foldl_nil, List.map_cons, List.map_nil, Nat.reduceAdd, Nat.reduceMul, Nat.reduceSub, ↓reduceIte, Nat.reduceEqDiff]); rfl)); (case hH => ((try simp (disch := omega) only [wtn, sa_drop, List.append_eq, List.foldl_cons, List.foldl_nil, List.map_cons, List.map_nil, Nat.reduceAdd, Nat.reduceMul, Nat.reduceSub, ↓reduceIte, Nat.reduceEqDiff]); rfl)))) | fail))
      · refine ⟨(i + 1, k11, ns ++ [others[i]], ad, cap), by simp only; omega, ⟨by simp only; omega, hk11, by simp only [List.length_append, List.length_cons, List.length_nil]; omega, fun x hx => ?_, by simp only; rw [take_snoc' others i hlt]; exact g5'.out.append (List.Sublist.refl _)⟩, ?_⟩
        · rcases List.mem_append.1 hx with hx | hx
          · exact g4'.out x hx
          · rw [List.mem_singleton] at hx; subst hx; exact hq
        · simp only [sa_app, List.length_append, List.length_cons, List.length_nil]
          exact Weak.mk' [_] [.row ad _ cap _ _ _, .box bd _, .box ob _, .box jb _] (List.Perm.trans (l₂ := [.row ad _ cap _ _ _, .box bd _, .box ob _, .box jb _] ++ [_]) (by (repeat' (first | exact List.Perm.refl _ | refine (List.perm_middle (l₁ := [_])).trans (List.Perm.cons _ ?_) | refine (List.perm_middle (l₁ := [_, _])).trans (List.Perm.cons _ ?_) | fail))) List.perm_append_comm) (VwHs.refl _ _) (by (repeat' (first | exact VwL.nil | (refine VwL.cons ?_ ?_) | exact Vw.refl _ | exact Vw.top _ | fail)))
      · exact ⟨(i + 1, k11, ns, ad, cap), by simp only; omega, ⟨by simp only; omega, hk11, by simp only; omega, g4'.out, by simp only; rw [take_snoc' others i hlt]; exact g5'.out.trans (List.sublist_append_left _ _)⟩, Weak.mk' [] [.row ad _ cap _ _ _, .box bd _, .box ob _, .box jb _] (by (repeat' (first | exact List.Perm.refl _ | refine (List.perm_middle (l₁ := [_])).trans (List.Perm.cons _ ?_) | fail))) (VwHs.refl _ _) (by (repeat' (first | exact VwL.nil | (refine VwL.cons ?_ ?_) | exact Vw.refl _ | exact Vw.top _ | fail)))⟩
    · (repeat' (first | with_reducible (first | refine awp_seq ?_ | refine awp_region ?_ | refine awp_block ?_ | refine awp_skip ?_ | refine awp_exit ?_ | refine awpL_nil ?_ | refine thenA_normal ?_ | refine thenA_exit ?_ | refine inBlockA_eq ?_) | (refine awp_cond _ rfl (fun h => ?_) (fun h => ?_) <;> ((try (simp only [whn] at h)); first | (exfalso; omega; done) | skip)) | ((apply awpL_evl2 rfl); (case h => ((first | (apply Evl_k 0 rfl; (first | exact Evl_mv _ rfl | exact Evl_as _ rfl)) | (apply Evl_x; (case hs => (intro _ _ h; cases h)); (case hx => rfl); (case hrun => (intro w; simp [wtb, AV.val, go_sem]; skip; rfl)))))); (case hT => ((try simp only [wtn]); rfl))) | (refine awpL_cons rfl ?_; (((refine Stp_k 11 rfl ?_; (first | (refine Stp_call 19 Tryz.f19 [_] _ _ _ rfl rfl Tryz.func19 (by decide) rfl (List.perm_middle (l₁ := [_])) (VwL.refl _ _) (next_w _ l kk 2 hd g2 (by omega) (by omega)) ?_; rintro _ _ ⟨u1, k11, rfl, rfl, hu1, hk11⟩) | (refine Stp_call 45 Tryz.f45 [_] _ _ _ rfl rfl Tryz.func45 (by decide) rfl (List.Perm.refl _) (VwL.refl _ _) (range_w _ l k11 1 3 hd hk11 (by omega) (by omega)) ?_; rintro _ _ ⟨u2, k12, rfl, rfl, hu2, hu2', hk12⟩)))); apply awpL_cong; (case hT => ((try simp only [wtn]); rfl)); (case hH => ((try simp only [wtn, List.append_eq]); rfl)))) | fail))
      case' neg.hK.refine_2.hK.h.hK.refine_1 =>
        refine awp_drawnA mixed ?_
        (apply awpA_take 1 rfl rfl (by kernel_rfl) (by intro c T H hp; simp [thenA, inBlockA, jumpA, endA] at hp); (case h => (first | exact WInd_mv _ rfl | fail)); (apply awpA_cong; (case hT => ((try simp only [wtn]); rfl)); (case hH => rfl))); (apply awpA_take 5 rfl rfl (by kernel_rfl) (by intro c T H hp; simp [thenA, inBlockA, jumpA, endA] at hp); (case h => (first | exact WInd_field_x _ _ _ _ _ _ rfl rfl HFld.out | fail)); (apply awpA_cong; (case hT => ((try simp only [wtn]); rfl)); (case hH => rfl)))
        (refine awpA_1 0 (by decide +kernel) rfl rfl ?_; (first | (apply Stp_evl; (case h => ((apply Evl_k 11 rfl; (exact Evl_call 73 Tryz.f73 _ _ rfl rfl Tryz.func73 (by decide) rfl (VwL.refl _ _) (patterns_w))))); (apply awpA_cong; (case hT => ((try simp only [wtn]); rfl)); (case hH => rfl))) | fail))
        (refine awpA_1 2 (by decide +kernel) rfl rfl ?_; (first | (((refine Stp_k 11 rfl ?_; ((refine Stp_call 19 Tryz.f19 [_] _ _ _ rfl rfl Tryz.func19 (by decide) rfl (List.Perm.refl _) (VwL.refl _ _) (next_w _ l k11 7 hd hk11 (by omega) (by omega)) ?_; rintro _ _ ⟨u3, k13, rfl, rfl, hu3, hk13⟩)))); apply awpA_cong; (case hT => ((try simp only [wtn]); rfl)); (case hH => ((try simp only [wtn]); rfl))) | fail))
        (apply awpA_take 3 rfl rfl (by kernel_rfl) (by intro c T H hp; simp [thenA, inBlockA, jumpA, endA] at hp); (case h => (first | exact WInd_index_sq _ _ _ _ _ _ _ _ _ _ rfl rfl rfl HEl.out rfl (by first | omega | fail) (by simp; first | done | fail) | fail)); (apply awpA_cong; (case hT => ((try simp only [wtn]); rfl)); (case hH => rfl)))
        refine awpA_2 4 6 (by decide +kernel) rfl rfl rfl rfl ?_ ?_
        all_goals
          (first | (apply Stp_evl; (case h => ((apply Evl_k 6 rfl; (exact Evl_load_at _ _ _ _ _ rfl rfl HAgg.out (by first | (simp [wlq]; omega) | fail) (by first | (simp [wlq]; omega) | fail))))); (apply awpA_cong; (case hT => ((try simp (disch := assumption) only [wtn, pick_pats, List.append_eq, List.foldl_cons, List.foldl_nil, List.map_cons, List.map_nil, Nat.reduceAdd, Nat.reduceMul, Nat.reduceSub, ↓reduceIte, Nat.reduceEqDiff]); rfl)); (case hH => rfl))) | (((refine Stp_k 16 rfl ?_; ((refine Stp_store _ _ _ _ _ _ _ rfl rfl FBox.out HSize.out (by first | rfl | fail) (by first | exact Nat.le_of_ble_eq_true rfl | fail) ?_)))); apply awpA_cong; (case hT => ((try simp (disch := omega) only [wtn, pick_pats, List.append_eq, List.foldl_cons, List.foldl_nil, List.map_cons, List.map_nil, Nat.reduceAdd, Nat.reduceMul, Nat.reduceSub, ↓reduceIte, Nat.reduceEqDiff]); rfl)); (case hH => ((try simp (disch := omega) only [wtn, pick_pats, List.append_eq, List.foldl_cons, List.foldl_nil, List.map_cons, List.map_nil, Nat.reduceAdd, Nat.reduceMul, Nat.reduceSub, ↓reduceIte, Nat.reduceEqDiff]); rfl))) | fail)
          (repeat ((first | refine awpA_1 4 (by decide +kernel) rfl rfl ?_ | refine awpA_1 6 (by decide +kernel) rfl rfl ?_ | refine awpA_1 7 (by decide +kernel) rfl rfl ?_ | refine awpA_1 8 (by decide +kernel) rfl rfl ?_ | fail); (first | (apply Stp_evl; (case h => (first | (apply Evl_k 5 rfl; (exact Evl_field_x _ _ _ _ _ _ rfl rfl HFld.out)) | (apply Evl_k 6 rfl; (exact Evl_load_at _ _ _ _ _ rfl rfl HAgg.out (by first | (simp [wlq]; omega) | fail) (by first | (simp [wlq]; omega) | fail))))); (apply awpA_cong; (case hT => ((try simp (disch := assumption) only [wtn, pick_pats, List.append_eq, List.foldl_cons, List.foldl_nil, List.map_cons, List.map_nil, Nat.reduceAdd, Nat.reduceMul, Nat.reduceSub, ↓reduceIte, Nat.reduceEqDiff]); rfl)); (case hH => rfl))) | (((refine Stp_k 16 rfl ?_; ((refine Stp_store _ _ _ _ _ _ _ rfl rfl FBox.out HSize.out (by first | rfl | fail) (by first | exact Nat.le_of_ble_eq_true rfl | fail) ?_)))); apply awpA_cong; (case hT => ((try simp (disch := omega) only [wtn, pick_pats, List.append_eq, List.foldl_cons, List.foldl_nil, List.map_cons, List.map_nil, Nat.reduceAdd, Nat.reduceMul, Nat.reduceSub, ↓reduceIte, Nat.reduceEqDiff]); rfl)); (case hH => ((try simp (disch := omega) only [wtn, pick_pats, List.append_eq, List.foldl_cons, List.foldl_nil, List.map_cons, List.map_nil, Nat.reduceAdd, Nat.reduceMul, Nat.reduceSub, ↓reduceIte, Nat.reduceEqDiff]); rfl))) | fail)))
          refine awpA_done (by decide +kernel) ?_
          (repeat' (first | with_reducible (first | refine awp_seq ?_ | refine awp_region ?_ | refine awp_block ?_ | refine awpL_nil ?_ | refine thenA_normal ?_) | ((apply awpL_evl2 rfl); (case h => (((apply Evl_k 0 rfl; (first | exact Evl_mv _ rfl | exact Evl_as _ rfl))))); (case hT => ((try simp only [wtn]); rfl))) | (refine awpL_cons rfl ?_; (((refine Stp_k 11 rfl ?_; ((refine Stp_call 45 Tryz.f45 [_] _ _ _ rfl rfl Tryz.func45 (by decide) rfl (List.Perm.refl _) (VwL.refl _ _) (range_w _ l k13 1 3 hd hk13 (by omega) (by omega)) ?_; rintro _ _ ⟨u2, k12, rfl, rfl, hu2, hu2', hk12⟩)))); apply awpL_cong; (case hT => ((try simp only [wtn]); rfl)); (case hH => ((try simp only [wtn]); rfl)))) | fail))
      all_goals
        refine awp_nilrow 53 2 ?_
        apply awp_loopS (S := Nat × Nat × List (Int × Int) × Option Addr × Nat × Bool × List UInt8) (fun s => frm 95 [(0, .x (.pointer (some ⟨bd, 0, none⟩))), (6, .x (.pointer (some ⟨ob, 0, none⟩))), (7, .x (.pointer (some ⟨jb, 0, none⟩))), (10, .x (.int .i64 s.1))])
          (fun s => [.row s.2.2.2.1 s.2.2.1.length s.2.2.2.2.1 53 2 (ra s.2.2.1), .box bd [.sq l.length (ia l), .x (.int .i64 s.2.1)], .box ob [.x (.string ⟨#[]⟩), .x (.string ⟨#[]⟩), .x (.slice none 0 0), .x (.slice none 0 0), .x (.bool false), .x (.string ⟨#[]⟩), .x (.int .i64 0), .x (.int .u64 0), .x (.int .u64 0), .x (.int .u64 0), .x (.int .i64 0), .x (.int .u64 0), .x (.slice none 0 0), .x (.int .i64 0), .x (.int .i64 0)], .box jb [.x (.string (bs name)), .x (.string (bs (runs.getD v1 []))), .sq env.length (ea env), .sq ns.length (sa ns), .x (.bool s.2.2.2.2.2.1), .x (.string (bs s.2.2.2.2.2.2)), .x (.int .i64 v2), .x (.int .u64 v3), .x (.int .u64 ((v3 : Int) + v7)), .x (.int .u64 v4), .x (.int .i64 v5), .x (.int .u64 v6), .x (.slice s.2.2.2.1 s.2.2.1.length s.2.2.2.2.1), .x (.int .i64 0), .x (.int .i64 0)]])
          (fun s => s.1 ≤ 3 ∧ s.2.1 ≤ l.length ∧ s.2.2.1.length + s.1 = u2 ∧ (∀ p ∈ s.2.2.1, p.1 ∈ sigs ∧ 0 ≤ p.2 ∧ p.2 ≤ 1000) ∧ s.2.2.2.2.2.2.length ≤ 16 ∧ ((s.2.2.2.2.2.1 = true ∧ s.2.2.2.2.2.2 ∈ pats) ∨ (s.2.2.2.2.2.1 = false ∧ s.2.2.2.2.2.2 = []))) (fun s => s.1) (u2, k12, [], none, 0, _, _)
        case h0 => exact Weak.mk' [.row ad ns.length cap _ _ _] [.row none 0 0 _ _ _, .box bd _, .box ob _, .box jb _] (by (repeat' (first | exact List.Perm.refl _ | refine (List.perm_middle (l₁ := [_, _])).trans (List.Perm.cons _ ?_) | fail))) (VwHs.cons (VwH.refl _ _) (VwHs.cons (VwH.refl _ _) (VwHs.cons (VwH.refl _ _) (VwHs.cons (VwH.box _ (by (repeat' (first | exact VwL.nil | apply VwL.cons | exact Vw.refl _ | exact Vw.row (List.Mem.head _) (VwL.refl _ _) | fail)))) VwHs.nil)))) (by (repeat' (first | exact VwL.nil | (refine VwL.cons ?_ ?_) | exact Vw.refl _ | exact Vw.top _ | fail)))
        case hi => exact ⟨by omega, hk12, by first | (simp; done) | fail, by simp, by first | (simp; done) | exact allD pats (fun s => s.length ≤ 16) (by decide) _ (by assumption) | fail, by first | exact .inr ⟨rfl, rfl⟩ | exact .inl ⟨rfl, getD_mem pats [] _ (by assumption)⟩ | fail⟩
        rintro ⟨m, k4', rs, ad2, cap2, hr, rd⟩ ⟨f1, f2, f3, f4, f5, f6⟩
        simp only at f1 f2 f3 f4 f5 f6
        have f4' := Lib.hid f4
        have f6' := Lib.hid f6
        clear f4 f6
        simp only [frm, List.replicate_succ, List.replicate_zero, List.foldl_cons, List.foldl_nil, List.set_cons_zero, List.set_cons_succ]
        by_cases hm : 0 < m
        · (repeat' (first | with_reducible (first | refine awp_seq ?_ | refine awp_region ?_ | refine awp_block ?_ | refine awp_skip ?_ | refine awpL_nil ?_ | refine thenA_normal ?_) | (refine awp_cond _ rfl (fun h => ?_) (fun h => ?_) <;> ((try (simp only [whn] at h)); first | (exfalso; omega; done) | skip)) | ((apply awpL_evl2 rfl); (case h => ((first | (apply Evl_k 0 rfl; (exact Evl_mv _ rfl)) | (apply Evl_x; (case hs => (intro _ _ h; cases h)); (case hx => rfl); (case hrun => (intro w; simp [wtb, AV.val, go_sem]; skip; rfl)))))); (case hT => ((try simp only [wtn]); rfl))) | fail))
          refine awp_mix (B := [_, _]) (R := [_, _]) mixed [0, 1, 2, 3, 7, 4, 5, 6, 8, 9, 10, 11, 12] [4, 8, 12] [13, 14] none [] 2 (List.perm_append_comm (l₁ := [_, _]) (l₂ := [_, _])) (by decide +kernel) rfl (fun i o h => by cases h) (by decide) ?_
          (repeat' (first | (apply dm_quiet rfl rfl; (case h => (intro H1; (try simp only [List.cons_append, List.nil_append]); (first | (apply Evl_k 0 rfl; (exact Evl_mv _ rfl)) | (apply Evl_k 5 rfl; (exact Evl_field_x _ _ _ _ _ _ rfl rfl HFld.out)) | (apply Evl_k 6 rfl; (first | exact Evl_load_at _ _ _ _ _ rfl rfl HAgg.out (by first | (simp [wlq]; omega) | fail) (by first | (simp [wlq]; omega) | fail) | exact Evl_load _ _ _ _ _ _ _ _ rfl rfl FBox.out HAgg.out (by first | exact Nat.le_of_ble_eq_true rfl | fail) (by first | exact Nat.le_of_ble_eq_true rfl | fail))) | (apply Evl_k 7 rfl; (exact Evl_index_sq _ _ _ _ _ _ _ _ _ _ rfl rfl rfl HEl.out rfl (by first | omega | fail) (by simp; first | done | fail))) | (apply Evl_k 10 rfl; (exact Evl_build _ _ _ _ _ rfl HPl.out (by first | rfl | fail) rfl)) | (apply Evl_k 17 rfl; (first | exact Evl_rowall _ _ _ _ _ _ rfl HElem.out rfl (by first | rfl | fail) rfl rfl (by decide) | exact Evl_rowsq _ _ _ _ _ _ _ _ rfl HElem.out (by first | rfl | fail) rfl (by decide) rfl)) | (apply Evl_x; (case hs => (intro _ _ h; cases h)); (case hx => rfl); (case hrun => (intro w; simp [wtb, AV.val, go_sem]; (try go_bits); rfl)))))); (case hT => ((try simp (disch := assumption) only [wtn, pick_sigs, List.append_eq, List.foldl_cons, List.foldl_nil, List.map_cons, List.map_nil, Nat.reduceAdd, Nat.reduceMul, Nat.reduceSub, ↓reduceIte, Nat.reduceEqDiff]); rfl))) | (apply dm_loud rfl rfl; (first | (refine Stp_k 11 rfl ?_; (first | (refine Stp_call 19 Tryz.f19 [_] _ _ _ rfl rfl Tryz.func19 (by decide) rfl (List.perm_middle (l₁ := [_])) (VwL.refl _ _) (next_w _ l k4' 3 hd f2 (by omega) (by omega)) ?_; rintro _ _ ⟨w1, k5', rfl, rfl, hw1, hk5'⟩) | (refine Stp_call 19 Tryz.f19 [_] _ _ _ rfl rfl Tryz.func19 (by decide) rfl (List.Perm.refl _) (VwL.refl _ _) (next_w _ l k5' 9 hd hk5' (by omega) (by omega)) ?_; rintro _ _ ⟨w2, k6', rfl, rfl, hw2, hk6'⟩))) | (refine Stp_k 13 rfl ?_; ((refine Stp_append _ _ _ _ _ _ _ _ _ _ _ _ _ _ rfl rfl FRow.out (Src.sq rfl) HElem.out (by first | rfl | fail) (fits _ _ (by omega) (by decide)) (fun ad cap => ?_))))); refine ⟨_, rfl, ?_⟩; apply dm_cong; (case hT => ((try simp (disch := omega) only [wtn, pick_sigs, List.append_eq, List.foldl_cons, List.foldl_nil, List.map_cons, List.map_nil, Nat.reduceAdd, Nat.reduceMul, Nat.reduceSub, ↓reduceIte, Nat.reduceEqDiff]); rfl)); (case hH => ((try simp (disch := omega) only [wtn, pick_sigs, List.append_eq, List.foldl_cons, List.foldl_nil, List.map_cons, List.map_nil, Nat.reduceAdd, Nat.reduceMul, Nat.reduceSub, ↓reduceIte, Nat.reduceEqDiff]); rfl))) | fail))
          (first | refine dm_end_none ?_ | fail); (apply awpA_cong; (case hT => rfl); (case hH => (simp only [List.cons_append, List.nil_append]; rfl))); (repeat ((first | refine awpA_1 13 (by decide +kernel) rfl rfl ?_ | refine awpA_1 14 (by decide +kernel) rfl rfl ?_ | fail); (first | (apply Stp_evl; (case h => ((apply Evl_k 5 rfl; (exact Evl_field_x _ _ _ _ _ _ rfl rfl HFld.out)))); (apply awpA_cong; (case hT => ((try simp only [wtn]); rfl)); (case hH => rfl))) | (((refine Stp_k 16 rfl ?_; ((refine Stp_store _ _ _ _ _ _ _ rfl rfl FBox.out HSize.out (by first | rfl | fail) (by first | exact Nat.le_of_ble_eq_true rfl | fail) ?_)))); apply awpA_cong; (case hT => ((try simp only [wtn]); rfl)); (case hH => ((try simp only [wtn]); rfl))) | fail))); refine awpA_done (by decide +kernel) ?_
          (repeat' (first | with_reducible (first | refine awp_region ?_ | refine awpL_nil ?_ | refine thenA_normal ?_ | refine inBlockA_normal ?_) | ((apply awpL_evl2 rfl); (case h => ((first | (apply Evl_k 0 rfl; (first | exact Evl_mv _ rfl | exact Evl_as _ rfl)) | (apply Evl_x; (case hs => (intro _ _ h; cases h)); (case hx => rfl); (case hrun => (intro w; simp [wtb, AV.val, go_sem]; (try go_bits); rfl)))))); (case hT => ((try simp only [wtn]); rfl))) | fail))
          refine ⟨(m - 1, k6', rs ++ [(sigs.getD w1 0, (w2 : Int))], ad, cap, hr, rd), by simp only; omega, ⟨by simp only; omega, hk6', by simp only [List.length_append, List.length_cons, List.length_nil]; omega, fun p hp => ?_, f5, f6'.out⟩, ?_⟩
          · rcases List.mem_append.1 hp with hp | hp
            · exact f4'.out p hp
            · rw [List.mem_singleton] at hp; subst hp; exact ⟨getD_mem sigs 0 _ hw1, by simp only; omega, by simp only; omega⟩
          · simp only [ra_app, List.length_append, List.length_cons, List.length_nil]
            exact Weak.mk' [] [.row ad _ cap _ _ _, .box bd _, .box ob _, .box jb _] (by (repeat' (first | exact List.Perm.refl _ | refine (List.perm_middle (l₁ := [_, _])).trans (List.Perm.cons _ ?_) | refine (List.perm_middle (l₁ := [_, _, _])).trans (List.Perm.cons _ ?_) | fail))) (VwHs.refl _ _) (by (repeat' (first | exact VwL.nil | (refine VwL.cons ?_ ?_) | exact Vw.refl _ | exact Vw.top _ | (refine Vw.eq ?_; (congr 3; omega)) | fail)))
        · (repeat' (first | with_reducible (first | refine awp_seq ?_ | refine awp_region ?_ | refine awp_ret ?_ | refine awp_exit ?_ | refine awpL_nil ?_ | refine thenA_normal ?_ | refine thenA_exit ?_ | refine inBlockA_eq ?_) | (refine awp_cond _ rfl (fun h => ?_) (fun h => ?_) <;> ((try (simp only [whn] at h)); first | (exfalso; omega; done) | skip)) | ((apply awpL_evl2 rfl); (case h => ((first | (apply Evl_k 0 rfl; (exact Evl_mv _ rfl)) | (apply Evl_k 6 rfl; (exact Evl_load _ _ _ _ _ _ _ _ rfl rfl FBox.out HAgg.out (by first | exact Nat.le_of_ble_eq_true rfl | fail) (by first | exact Nat.le_of_ble_eq_true rfl | fail))) | (apply Evl_x; (case hs => (intro _ _ h; cases h)); (case hx => rfl); (case hrun => (intro w; simp [wtb, AV.val, go_sem]; skip; rfl)))))); (case hT => ((try simp only [wtn, ↓reduceIte]); rfl))) | (refine awpL_cons rfl ?_; (((refine Stp_k 16 rfl ?_; ((refine Stp_store _ _ _ _ _ _ _ rfl rfl FBox.out HSize.out (by first | rfl | fail) (by first | exact Nat.le_of_ble_eq_true rfl | fail) ?_)))); apply awpL_cong; (case hT => ((try simp only [wtn]); rfl)); (case hH => ((try simp only [wtn, Nat.reduceAdd]); rfl)))) | fail))
          have hU : ∀ p ∈ rs, U64 p.2 := fun p hp => by have := f4'.out p hp; exact ⟨by omega, by omega⟩
          have hS : JSmall ⟨name, runs.getD v1 [], env, ns, hr, rd, v2, v3, (v3 : Int) + v7, v4, v5, v6, rs, 0, 0⟩ := ⟨hn, allD runs (fun s => s.length ≤ 16) (by decide) _ hv1, hEs.1, hEs.2, by simp only; omega, g4'.out, f5, by simp only; omega, hU, ⟨by simp only; omega, by simp only; omega⟩, ⟨by simp only; omega, by simp only; omega⟩, ⟨by simp only; omega, by simp only; omega⟩, ⟨by simp only; omega, by simp only; omega⟩, ⟨by simp only; omega, by simp only; omega⟩⟩
          refine endA_ret _ _ ?_ ⟨⟨name, runs.getD v1 [], env, ns, hr, rd, v2, v3, (v3 : Int) + v7, v4, v5, v6, rs, 0, 0⟩, k4', rfl, rfl, f2, hS, rfl, getD_mem runs [] _ hv1, hEv'.out, g5'.out.trans (List.take_sublist _ _), f6'.out, by simp only; omega, by simp only; omega, by simp only; omega, by simp only; omega, by simp only; omega, by simp only; omega, ⟨by simp only; intro e; rw [e] at f3; simp at f3; omega, by simp only; omega⟩, f4'.out⟩
          exact Res1 rfl (RV.cell 2 rfl rfl HAgg.out (by simp) (by simp)) (Weak.mk' [_, .box ob _, .box jb _] [.box bd _] (by (repeat' (first | exact List.Perm.refl _ | refine List.Perm.cons _ ?_ | refine (List.perm_middle (l₁ := [_])).trans (List.Perm.cons _ ?_) | fail))) (VwHs.refl _ _) (VwL.cons (Vw.agg (by (repeat' (first | exact VwL.nil | apply VwL.cons | exact Vw.refl _ | exact Vw.row (List.Mem.head _) (VwL.refl _ _) | fail)))) VwL.nil))
end Go.Proofs.YtkhhlmonhapmaaaGreatDoor
