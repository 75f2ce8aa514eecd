import Derived.Test.YtkhhlmonhapmaaaGreatDoorW9
import Derived.Test.YtkhhlmonhapmaaaGreatDoorW0
import Derived.Test.YtkhhlmonhapmaaaGreatDoorRows
import Derived.Lib.AppendZeros
import Derived.Test.YtkhhlmonhapmaaaGreatDoorW2
import Derived.Test.YtkhhlmonhapmaaaGreatDoorW6
/- The mill: at most four jobs. -/
set_option linter.unusedSimpArgs false
set_option linter.unusedVariables false
namespace Go.Proofs.YtkhhlmonhapmaaaGreatDoor
open Go.RowKit
def names4 : List (List UInt8) := [[97], [98], [99], [100]]
theorem pick_names4 {v : Nat} (h : v < 4) : (List.drop v [.x (.string ⟨#[97]⟩), .x (.string ⟨#[98]⟩), .x (.string ⟨#[99]⟩), .x (.string ⟨#[100]⟩)]).getD 0 AV.top = .x (.string (bs (names4.getD v []))) := pick_sa names4 v h
theorem take_names4 {v : Nat} (h : v ≤ 4) : AV.sq (v - 0) (List.take (v - 0) [.x (.string ⟨#[97]⟩), .x (.string ⟨#[98]⟩), .x (.string ⟨#[99]⟩), .x (.string ⟨#[100]⟩)]) = .sq (names4.take v).length (sa (names4.take v)) := by
  match v, h with
  | 0, _ => rfl
  | 1, _ => rfl
  | 2, _ => rfl
  | 3, _ => rfl
  | 4, _ => rfl
theorem jfa_app' (l m : List JF) : jfa (l ++ m) = jfa l ++ jfa m := by simp [jfa]
theorem names4_mem (v : Nat) : ∀ s ∈ names4.take v, s.length ≤ 8 := fun s hs => by
  have := List.mem_of_mem_take hs
  simp only [names4, List.mem_cons, List.not_mem_nil, or_false] at this
  rcases this with rfl | rfl | rfl | rfl <;> simp
def JM (j : JF) : Prop := ∃ i, i < 4 ∧ JMill (names4.getD i []) (names4.take i) j
set_option maxRecDepth 100000 in
set_option maxHeartbeats 8000000 in
theorem jobs_x (bd : Nat) (l : List Int) (k : Nat) (hd : DK l) (hk : k ≤ l.length) : Spec Tryz.prog 30 [.box bd [.sq l.length (ia l), .x (.int .i64 k)]] [.x (.pointer (some ⟨bd, 0, none⟩))] (fun r H' => ∃ (js : List JF) (k' : Nat), r = .sq js.length (jfa js) ∧ H' = [.box bd [.sq l.length (ia l), .x (.int .i64 k')]] ∧ k' ≤ l.length ∧ 1 ≤ js.length ∧ js.length ≤ 4 ∧ ∀ j ∈ js, JM j) := by
  refine Spec_of Tryz.func30 rfl ?_
  simp only [Tryz.ntmps30, List.length_cons, List.length_nil, List.replicate_succ, List.replicate_zero, List.cons_append, List.nil_append, Nat.reduceAdd, Nat.reduceSub]
  (repeat' (first | with_reducible (first | refine awp_seq ?_ | refine awp_region ?_ | refine awp_block ?_ | refine awpL_nil ?_ | refine thenA_normal ?_) | ((apply awpL_evl2 rfl); (case h => ((first | (apply Evl_k 0 rfl; (first | exact Evl_mv _ rfl | exact Evl_as _ rfl)) | (apply Evl_k 17 rfl; (exact Evl_rowall _ _ _ _ _ _ rfl HElem.out rfl (by first | rfl | fail) rfl rfl (by decide)))))); (case hT => ((try simp only [wtn]); rfl))) | (refine awpL_cons rfl ?_; (((refine Stp_k 11 rfl ?_; (first | (refine Stp_call 19 Tryz.f19 [_] _ _ _ rfl rfl Tryz.func19 (by decide) rfl (List.Perm.refl _) (VwL.refl _ _) (next_w _ l k 2 hd hk (by omega) (by omega)) ?_; rintro _ _ ⟨v1, k1, rfl, rfl, hv1, hk1⟩) | (refine Stp_call 45 Tryz.f45 [_] _ _ _ rfl rfl Tryz.func45 (by decide) rfl (List.Perm.refl _) (VwL.refl _ _) (range_w _ l k1 1 4 hd hk1 (by omega) (by omega)) ?_; rintro _ _ ⟨v2, k2, rfl, rfl, hv2, hv2', hk2⟩)))); apply awpL_cong; (case hT => ((try simp only [wtn]); rfl)); (case hH => ((try simp only [wtn]); rfl)))) | fail))
  refine awp_nilrow 51 15 ?_
  apply awp_loopS (S := Nat × Nat × List JF × Option Addr × Nat) (fun s => frm 39 [(0, .x (.pointer (some ⟨bd, 0, none⟩))), (3, .x (.slice s.2.2.2.1 s.2.2.1.length s.2.2.2.2)), (4, .sq 4 [.x (.string ⟨#[97]⟩), .x (.string ⟨#[98]⟩), .x (.string ⟨#[99]⟩), .x (.string ⟨#[100]⟩)]), (5, .x (.int .i64 v1)), (6, .x (.int .i64 v2)), (7, .x (.int .i64 s.1))])
    (fun s => [.row s.2.2.2.1 s.2.2.1.length s.2.2.2.2 51 15 (jfa s.2.2.1), .box bd [.sq l.length (ia l), .x (.int .i64 s.2.1)]]) (fun s => s.1 ≤ v2 ∧ s.2.1 ≤ l.length ∧ s.2.2.1.length = s.1 ∧ ∀ j ∈ s.2.2.1, JM j) (fun s => v2 - s.1) (0, k2, [], none, 0)
  case h0 => exact (Weak.mk' [] _ (List.Perm.refl _) (VwHs.refl _ _) (by (repeat' (first | exact VwL.nil | (refine VwL.cons ?_ ?_) | exact Vw.refl _ | exact Vw.top _ | fail))))
  case hi => exact ⟨Nat.zero_le _, hk2, rfl, by simp⟩
  rintro ⟨i, kk, js, ad, cap⟩ ⟨g1, g2, g3, g4⟩
  simp only at g1 g2 g3 g4
  have g4' := Lib.hid g4
  clear g4
  simp only [frm, List.replicate_succ, List.replicate_zero, List.foldl_cons, List.foldl_nil, List.set_cons_zero, List.set_cons_succ]
  by_cases hlt : i < v2
  · (repeat' (first | with_reducible (first | refine awp_seq ?_ | refine awp_region ?_ | refine awp_block ?_ | refine awp_skip ?_ | refine awpL_nil ?_ | refine thenA_normal ?_) | (refine awp_cond _ rfl (fun h => ?_) (fun h => ?_) <;> ((try (simp only [whn] at h)); first | (exfalso; omega; done) | skip)) | ((apply awpL_evl2 rfl); (case h => ((first | (apply Evl_k 0 rfl; (exact Evl_mv _ rfl)) | (apply Evl_x; (case hs => (intro _ _ h; cases h)); (case hx => rfl); (case hrun => (intro w; simp [wtb, AV.val, go_sem]; skip; rfl)))))); (case hT => ((try simp only [wtn]); rfl))) | fail))
    refine awp_mix (B := []) (R := [_, _]) mixed [0, 1, 2, 3, 4, 5, 6, 7, 8] [8] [10] (some 9) _ 1 (List.Perm.refl _) (by decide +kernel) rfl (mix_alloc rfl rfl rfl HZero.out rfl rfl) (by decide) ?_
    (repeat' (first | (apply dm_quiet rfl rfl; (case h => (intro H1; (try simp only [List.nil_append]); (first | (apply Evl_k 0 rfl; (exact Evl_mv _ rfl)) | (apply Evl_k 6 rfl; (exact Evl_load_at _ _ _ _ _ rfl rfl HAgg.out (by first | (simp [wlq]; omega) | fail) (by first | (simp [wlq]; omega) | fail))) | (apply Evl_k 7 rfl; (exact Evl_index_sq _ _ _ _ _ _ _ _ _ _ rfl rfl rfl HEl.out rfl (by first | omega | fail) (by simp; first | done | fail))) | (apply Evl_k 9 rfl; (exact Evl_slice_sq _ _ _ _ _ _ _ _ _ _ rfl rfl HEl.out (by first | exact .inl ⟨rfl, rfl⟩ | fail) (by first | exact .inr ⟨_, _, rfl, rfl⟩ | fail) (by omega) (by omega)))))); (case hT => ((try simp (disch := omega) only [wtn, pick_names4, take_names4, JF.cells, List.append_eq, List.foldl_cons, List.foldl_nil, List.map_cons, List.map_nil, Nat.reduceAdd, Nat.reduceMul, Nat.reduceSub, ↓reduceIte, Nat.reduceEqDiff]); rfl))) | (apply dm_loud rfl rfl; ((refine Stp_k 11 rfl ?_; ((refine Stp_call 46 Tryz.f46 [_] _ _ _ rfl rfl Tryz.func46 (by decide) rfl (List.perm_middle (l₁ := [_])) (VwL.refl _ _) (mjob_x _ l kk hd g2 (names4.getD i []) (names4.take i) (allD names4 (fun s => s.length ≤ 8) (by decide) i (by simp [names4]; omega)) (by simp [names4]; omega) (names4_mem i)) ?_; rintro _ _ ⟨j, k3, rfl, rfl, hk3, hj⟩)))); refine ⟨_, rfl, ?_⟩; apply dm_cong; (case hT => ((try simp (disch := omega) only [wtn, pick_names4, take_names4, JF.cells, List.append_eq, List.foldl_cons, List.foldl_nil, List.map_cons, List.map_nil, Nat.reduceAdd, Nat.reduceMul, Nat.reduceSub, ↓reduceIte, Nat.reduceEqDiff]); rfl)); (case hH => ((try simp (disch := omega) only [wtn, pick_names4, take_names4, JF.cells, List.append_eq, List.foldl_cons, List.foldl_nil, List.map_cons, List.map_nil, Nat.reduceAdd, Nat.reduceMul, Nat.reduceSub, ↓reduceIte, Nat.reduceEqDiff]); rfl))) | fail))
    (first | (refine dm_end_alloc rfl (fun b => ?_)) | fail); (apply awpA_cong; (case hT => ((try simp only [wtn]); rfl)); (case hH => (simp only [List.nil_append]; rfl))); (refine awpA_1 10 (by decide +kernel) rfl rfl ?_; (first | (((refine Stp_k 16 rfl ?_; ((refine Stp_store _ _ _ _ _ _ _ rfl rfl FBox.out HSize.out (by first | rfl | fail) (by first | exact Nat.le_of_ble_eq_true rfl | fail) ?_)))); apply awpA_cong; (case hT => ((try simp only [wtn]); rfl)); (case hH => ((try simp only [wtn, Nat.reduceAdd]); rfl))) | fail)); refine awpA_done (by decide +kernel) ?_
    (repeat' (first | with_reducible (first | refine awp_seq ?_ | refine awp_region ?_ | refine awpL_nil ?_ | refine thenA_normal ?_ | refine inBlockA_normal ?_) | (refine awp_cond _ rfl (fun h => ?_) (fun h => ?_) <;> ((try (simp only [whn] at h)); skip)) | ((apply awpL_evl2 rfl); (case h => ((first | (apply Evl_k 0 rfl; (first | exact Evl_mv _ rfl | exact Evl_as _ rfl)) | (apply Evl_k 6 rfl; (exact Evl_load _ _ _ _ _ _ _ _ rfl rfl FBox.out HAgg.out (by first | exact Nat.le_of_ble_eq_true rfl | fail) (by first | exact Nat.le_of_ble_eq_true rfl | fail))) | (apply Evl_x; (case hs => (intro _ _ h; cases h)); (case hx => rfl); (case hrun => (intro w; simp [wtb, AV.val, go_sem]; (try go_bits); rfl)))))); (case hT => ((try simp only [wtn, ↓reduceIte]); rfl))) | (refine awpL_cons rfl ?_; ((first | (refine Stp_k 13 rfl ?_; ((refine Stp_append _ _ _ _ _ _ _ _ _ _ _ _ _ _ rfl rfl FRow.out (Src.row _ rfl FRow.out) HElem.out (by first | rfl | (simp; done) | fail) (fits _ _ (by omega) (by decide)) (fun ad cap => ?_)))) | (refine Stp_k 17 rfl ?_; ((refine Stp_buildSlice _ _ _ _ _ _ _ _ rfl HElem.out (by first | rfl | fail) rfl (by decide) rfl (fun b => ?_))))); apply awpL_cong; (case hT => ((try simp only [wtn]); rfl)); (case hH => ((try simp only [wtn, Nat.reduceAdd, Nat.reduceMul]); rfl)))) | fail))
    · refine ⟨(i + 1, k3, js ++ [j], ad, cap), by simp only; omega, ⟨by simp only; omega, hk3, by simp only [List.length_append, List.length_cons, List.length_nil]; omega, fun x hx => ?_⟩, ?_⟩
      · rcases List.mem_append.1 hx with hx | hx
        · exact g4'.out x hx
        · rw [List.mem_singleton] at hx; subst hx; exact ⟨i, by omega, hj⟩
      · simp only [jfa_app', List.length_append, List.length_cons, List.length_nil]
        exact Weak.mk' [_, _] [.row ad _ cap _ _ _, .box bd _] (List.Perm.trans (l₂ := [.row ad _ cap _ _ _, .box bd _] ++ [_, _]) (by (repeat' (first | exact List.Perm.refl _ | refine (List.perm_middle (l₁ := [_, _])).trans (List.Perm.cons _ ?_) | refine (List.perm_middle (l₁ := [_, _, _])).trans (List.Perm.cons _ ?_) | fail))) List.perm_append_comm) (VwHs.refl _ _) (by (repeat' (first | exact VwL.nil | (refine VwL.cons ?_ ?_) | exact Vw.refl _ | exact Vw.top _ | fail)))
    · refine ⟨(i + 1, k3, [j] ++ js, ad, cap), by simp only; omega, ⟨by simp only; omega, hk3, by simp only [List.length_append, List.length_cons, List.length_nil]; omega, fun x hx => ?_⟩, ?_⟩
      · rcases List.mem_append.1 hx with hx | hx
        · rw [List.mem_singleton] at hx; subst hx; exact ⟨i, by omega, hj⟩
        · exact g4'.out x hx
      · simp only [jfa_app', List.length_append, List.length_cons, List.length_nil]
        exact Weak.mk' [_, _] [.row ad _ cap _ _ _, .box bd _] (List.Perm.trans (l₂ := [.row ad _ cap _ _ _, .box bd _] ++ [_, _]) (by (repeat' (first | exact List.Perm.refl _ | refine List.Perm.cons _ ?_ | refine (List.perm_middle (l₁ := [_])).trans (List.Perm.cons _ ?_) | fail))) List.perm_append_comm) (VwHs.refl _ _) (by (repeat' (first | exact VwL.nil | (refine VwL.cons ?_ ?_) | exact Vw.refl _ | exact Vw.top _ | fail)))
  · (repeat' (first | with_reducible (first | refine awp_seq ?_ | refine awp_region ?_ | refine awp_ret ?_ | refine awp_exit ?_ | refine awpL_nil ?_ | refine thenA_normal ?_ | refine thenA_exit ?_ | refine inBlockA_eq ?_) | (refine awp_cond _ rfl (fun h => ?_) (fun h => ?_) <;> ((try (simp only [whn] at h)); first | (exfalso; omega; done) | skip)) | ((apply awpL_evl2 rfl); (case h => ((first | (apply Evl_k 0 rfl; (first | exact Evl_mv _ rfl | exact Evl_as _ rfl)) | (apply Evl_x; (case hs => (intro _ _ h; cases h)); (case hx => rfl); (case hrun => (intro w; simp [wtb, AV.val, go_sem]; skip; rfl)))))); (case hT => ((try simp only [wtn]); rfl))) | fail))
    refine endA_ret _ _ (Res1 rfl (RV.tmp _) (Weak.mk' [_] [_] (List.Perm.refl _) (VwHs.refl _ _) (VwL.cons (Vw.row (List.Mem.head _) (VwL.refl _ _)) VwL.nil))) ⟨js, kk, rfl, rfl, g2, by omega, by omega, g4'.out⟩
end Go.Proofs.YtkhhlmonhapmaaaGreatDoor
namespace Go.Proofs.YtkhhlmonhapmaaaGreatDoor
open Go.RowKit
def isLet (b : UInt8) : Bool := decide ((65 ≤ b.toNat ∧ b.toNat ≤ 90) ∨ (97 ≤ b.toNat ∧ b.toNat ≤ 122) ∨ b.toNat = 95)
def isDig (b : UInt8) : Bool := decide (48 ≤ b.toNat ∧ b.toNat ≤ 57)
def hexv (b : UInt8) : Option Nat :=
  if 48 ≤ b.toNat ∧ b.toNat ≤ 57 then some (b.toNat - 48)
  else if 97 ≤ b.toNat ∧ b.toNat ≤ 102 then some (b.toNat - 87)
  else if 65 ≤ b.toNat ∧ b.toNat ≤ 70 then some (b.toNat - 55) else none
theorem hexv_lt {b : UInt8} {n : Nat} (h : hexv b = some n) : n < 16 := by
  unfold hexv at h
  split at h
  · cases h; omega
  · split at h
    · cases h; omega
    · split at h
      · cases h; omega
      · cases h
def escd : List UInt8 → Option (UInt8 × Nat)
  | [] => none
  | d :: r =>
    if d.toNat = 34 ∨ d.toNat = 92 then some (d, 1) else if d.toNat = 110 then some (10, 1) else if d.toNat = 116 then some (9, 1)
    else if d.toNat = 120 then match r with
      | h :: l :: _ => match hexv h, hexv l with
        | some a, some b => some (UInt8.ofNat (16 * a + b), 3)
        | _, _ => none
      | _ => none
    else none
theorem escd_mark (d : UInt8) (r : List UInt8) (h : d.toNat = 34 ∨ d.toNat = 92) : escd (d :: r) = some (d, 1) := by simp only [escd, if_pos h]
theorem escd_n (d : UInt8) (r : List UInt8) (h : d.toNat = 110) : escd (d :: r) = some (10, 1) := by simp only [escd]; rw [if_neg (by omega), if_pos h]
theorem escd_t (d : UInt8) (r : List UInt8) (h : d.toNat = 116) : escd (d :: r) = some (9, 1) := by simp only [escd]; rw [if_neg (by omega), if_neg (by omega), if_pos h]
theorem escd_x (d a b : UInt8) (r : List UInt8) (h : d.toNat = 120) : escd (d :: a :: b :: r) = (hexv a).bind fun x => (hexv b).map fun y => (UInt8.ofNat (16 * x + y), 3) := by
  simp only [escd]; rw [if_neg (by omega), if_neg (by omega), if_neg (by omega), if_pos h]
  cases hexv a <;> cases hexv b <;> rfl
theorem escd_x1 (d a : UInt8) (h : d.toNat = 120) : escd [d, a] = none := by
  simp only [escd]; rw [if_neg (by omega), if_neg (by omega), if_neg (by omega), if_pos h]
theorem escd_x0 (d : UInt8) (h : d.toNat = 120) : escd [d] = none := by
  simp only [escd]; rw [if_neg (by omega), if_neg (by omega), if_neg (by omega), if_pos h]
theorem escd_no (d : UInt8) (r : List UInt8) (h : ¬(d.toNat = 34 ∨ d.toNat = 92 ∨ d.toNat = 110 ∨ d.toNat = 116 ∨ d.toNat = 120)) : escd (d :: r) = none := by
  simp only [escd]; rw [if_neg (by omega), if_neg (by omega), if_neg (by omega), if_neg (by omega)]
def part : List UInt8 → Option (UInt8 × Nat)
  | [] => none
  | c :: r => if c.toNat < 32 ∨ c.toNat = 34 then none else if c.toNat ≠ 92 then some (c, 1) else (escd r).map fun x => (x.1, x.2 + 1)
theorem part_cons (c : UInt8) (r : List UInt8) : part (c :: r) = if c.toNat < 32 ∨ c.toNat = 34 then none else if c.toNat ≠ 92 then some (c, 1) else (escd r).map fun x => (x.1, x.2 + 1) := rfl
theorem escd_le {l : List UInt8} {b : UInt8} {n : Nat} (h : escd l = some (b, n)) : 1 ≤ n ∧ n ≤ 3 ∧ n ≤ l.length := by
  unfold escd at h
  split at h
  · cases h
  · split at h
    · cases h; simp
    · split at h
      · cases h; simp
      · split at h
        · cases h; simp
        · split at h
          · split at h
            · split at h
              · cases h; simp
              · cases h
            · cases h
          · cases h
theorem part_le {l : List UInt8} {b : UInt8} {n : Nat} (h : part l = some (b, n)) : 1 ≤ n ∧ n ≤ 4 ∧ n ≤ l.length := by
  unfold part at h
  split at h
  · cases h
  · split at h
    · cases h
    · split at h
      · cases h; simp
      · cases he : escd _ with
        | none => rw [he] at h; cases h
        | some x => rw [he] at h; cases h; have := escd_le he; simp; omega
def quo (l : List UInt8) : Option (List UInt8 × Nat) :=
  match l with
  | [] => none
  | c :: r =>
    if c.toNat = 34 then some ([], 1) else
    match part (c :: r) with
    | none => none
    | some x => (quo ((c :: r).drop (max x.2 1))).map fun y => (x.1 :: y.1, x.2 + y.2)
termination_by l.length
decreasing_by simp; omega
def sla (l : List UInt8) : Option (List UInt8 × Nat) :=
  match l with
  | [] => none
  | c :: r =>
    if c.toNat = 47 then some ([], 1) else if c.toNat < 32 then none
    else if c.toNat = 92 then
      match r with
      | [] => none
      | d :: r => if d.toNat < 32 then none else if d.toNat = 47 then (sla r).map fun x => (d :: x.1, 2 + x.2) else (sla r).map fun x => (c :: d :: x.1, 2 + x.2)
    else (sla r).map fun x => (c :: x.1, 1 + x.2)
def spn (p : UInt8 → Bool) (l : List UInt8) : Nat := (l.takeWhile p).length
def isWrd (b : UInt8) : Bool := isDig b || (isLet b || decide (b.toNat = 45))
def one : List UInt8 → Except Int (Int × List UInt8 × Nat)
  | [] => .error 50
  | c :: r =>
    if isLet c then .ok (1, (c :: r).take (spn isWrd (c :: r)), spn isWrd (c :: r))
    else if isDig c then
      if 18 < spn isDig (c :: r) ∨ 1 < spn isDig (c :: r) ∧ c.toNat = 48 then .error 53 else .ok (2, (c :: r).take (spn isDig (c :: r)), spn isDig (c :: r))
    else if c.toNat = 34 then match quo r with
      | none => .error 51
      | some x => .ok (3, x.1, x.2 + 1)
    else if c.toNat = 47 then match sla r with
      | none => .error 52
      | some x => .ok (4, x.1, x.2 + 1)
    else if c.toNat = 123 ∨ c.toNat = 125 ∨ c.toNat = 44 ∨ c.toNat = 61 then .ok (5, [c], 1)
    else .error 50
def cmt : List UInt8 → Nat
  | [] => 0
  | c :: r => if c.toNat = 10 then 0 else cmt r + 1
def skp : List UInt8 → Nat
  | [] => 0
  | c :: r =>
    if c.toNat = 32 ∨ c.toNat = 9 ∨ c.toNat = 10 ∨ c.toNat = 13 then skp r + 1
    else if c.toNat = 35 then cmt (c :: r) + skp ((c :: r).drop (max (cmt (c :: r)) 1))
    else 0
termination_by l => l.length
decreasing_by
  · simp
  · simp; omega
theorem cmt_le (l : List UInt8) : cmt l ≤ l.length := by
  induction l with
  | nil => simp [cmt]
  | cons c r ih => simp only [cmt]; split <;> simp; omega
theorem cmt_yes (c : UInt8) (r : List UInt8) (h : c.toNat ≠ 10) : cmt (c :: r) = cmt r + 1 := by simp only [cmt, if_neg h]
theorem cmt_no (c : UInt8) (r : List UInt8) (h : c.toNat = 10) : cmt (c :: r) = 0 := by simp only [cmt, if_pos h]
theorem skp_nil : skp [] = 0 := by rw [skp]
theorem skp_blank (c : UInt8) (r : List UInt8) (h : c.toNat = 32 ∨ c.toNat = 9 ∨ c.toNat = 10 ∨ c.toNat = 13) : skp (c :: r) = skp r + 1 := by rw [skp, if_pos h]
theorem skp_cmt (c : UInt8) (r : List UInt8) (h : c.toNat = 35) : skp (c :: r) = cmt (c :: r) + skp ((c :: r).drop (cmt (c :: r))) := by
  rw [skp, if_neg (by omega), if_pos h, show max (cmt (c :: r)) 1 = cmt (c :: r) from by rw [cmt_yes _ _ (by omega)]; omega]
theorem skp_no (c : UInt8) (r : List UInt8) (h : ¬(c.toNat = 32 ∨ c.toNat = 9 ∨ c.toNat = 10 ∨ c.toNat = 13)) (h2 : c.toNat ≠ 35) : skp (c :: r) = 0 := by rw [skp, if_neg h, if_neg h2]
def plc (p : Nat × Nat) : List UInt8 → Nat × Nat
  | [] => p
  | c :: r => plc (if c.toNat = 10 then (p.1 + 1, 1) else (p.1, p.2 + 1)) r
structure Tok where
  kind : Int
  text : List UInt8
  line : Nat
  col : Nat
structure Flt where
  code : Int
  line : Nat
  col : Nat
def lexGo (p : Nat × Nat) (n : Nat) (l : List UInt8) : Except Flt (List Tok) :=
  match h : l.drop (skp l) with
  | [] => .ok [⟨6, [], (plc p l).1, (plc p l).2⟩]
  | c :: r =>
    match one (c :: r) with
    | .error e => .error ⟨e, (plc p (l.take (skp l))).1, (plc p (l.take (skp l))).2⟩
    | .ok x => if 2000 ≤ n then .error ⟨1, (plc p (l.take (skp l))).1, (plc p (l.take (skp l))).2⟩
      else (lexGo (plc p (l.take (skp l + x.2.2))) (n + 1) ((c :: r).drop (max x.2.2 1))).map (⟨x.1, x.2.1, (plc p (l.take (skp l))).1, (plc p (l.take (skp l))).2⟩ :: ·)
termination_by l.length
decreasing_by
  have := congrArg List.length h
  simp at *; omega
def lex (l : List UInt8) : Except Flt (List Tok) := if 8192 < l.length then .error ⟨1, 0, 0⟩ else lexGo (1, 1) 0 l
end Go.Proofs.YtkhhlmonhapmaaaGreatDoor
namespace Go.Proofs.YtkhhlmonhapmaaaGreatDoor
open Go.RowKit
theorem elB : ElemAt Tryz.prog 59 5 (.int .u8 0) 1 1 := ⟨Tryz.underlying59, by kernel_rfl, rfl, by decide⟩

end Go.Proofs.YtkhhlmonhapmaaaGreatDoor
namespace Go.Proofs.YtkhhlmonhapmaaaGreatDoor
open Go.RowKit
theorem ret_bool {a b : Bool} (h : a = b) : Ending.returned (.bool a) = .returned (.bool b) := by rw [h]
theorem ret_ub {a b : Int} (h : a = b) (c : Bool) : Ending.returned (.tuple #[.int .u8 a, .bool c]) = .returned (.tuple #[.int .u8 b, .bool c]) := by rw [h]
set_option maxRecDepth 100000 in
set_option maxHeartbeats 800000 in
theorem rletter_any (b : UInt8) (w : World) : Calls Tryz.prog 92 #[.int .u8 b.toNat] w fun e w' => e = .returned (.bool (isLet b)) ∧ w' = w := by
  go_enter Tryz.func92, Tryz.ntmps92
  go_wp2_with fail
  all_goals go_ret
  all_goals unfold isLet
  all_goals exact ⟨ret_bool (by rw [Bool.eq_iff_iff]; simp only [Bool.or_eq_true, Bool.and_eq_true, decide_eq_true_eq, beq_iff_eq, bne_iff_ne, Bool.not_eq_true, Bool.not_eq_true', decide_eq_false_iff_not, reduceCtorEq, iff_true, true_iff, iff_false, false_iff, Bool.false_eq_true, ne_eq] <;> omega), rfl⟩
set_option maxRecDepth 100000 in
set_option maxHeartbeats 800000 in
theorem rdigit_any (b : UInt8) (w : World) : Calls Tryz.prog 94 #[.int .u8 b.toNat] w fun e w' => e = .returned (.bool (isDig b)) ∧ w' = w := by
  go_enter Tryz.func94, Tryz.ntmps94
  go_wp2_with fail
  all_goals go_ret
  all_goals unfold isDig
  all_goals exact ⟨ret_bool (by rw [Bool.eq_iff_iff]; simp only [Bool.or_eq_true, Bool.and_eq_true, decide_eq_true_eq, beq_iff_eq, bne_iff_ne, Bool.not_eq_true, Bool.not_eq_true', decide_eq_false_iff_not, reduceCtorEq, iff_true, true_iff, iff_false, false_iff, Bool.false_eq_true, ne_eq] <;> omega), rfl⟩
def hexr (b : UInt8) : Value := match hexv b with | none => .tuple #[.int .u8 0, .bool false] | some n => .tuple #[.int .u8 (n : Nat), .bool true]
set_option maxRecDepth 100000 in
set_option maxHeartbeats 800000 in
theorem rhalf_any (b : UInt8) (w : World) : Calls Tryz.prog 139 #[.int .u8 b.toNat] w fun e w' => e = .returned (hexr b) ∧ w' = w := by
  have hb := b.toNat_lt
  go_enter Tryz.func139, Tryz.ntmps139
  go_wp2_with fail
  refine Calls.mono (rdigit_any b _) ?_
  rintro e w1 ⟨rfl, rfl⟩
  cases hd : isDig b
  all_goals
    go_wp2_with fail
    all_goals go_ret2
    all_goals
      simp only [isDig, decide_eq_true_eq, decide_eq_false_iff_not] at hd
      refine ⟨?_, rfl⟩
      unfold hexr hexv
      repeat rw [if_neg (by omega)]
      first | rfl | (rw [if_pos (by omega)]; exact ret_ub (by omega) _) | fail

def partr (l : List UInt8) : Value := match part l with | none => .tuple #[.int .u8 0, .int .i64 0] | some x => .tuple #[.int .u8 x.1.toNat, .int .i64 (x.2 : Nat)]
def escp (l : List UInt8) : Value := match escd l with | none => .tuple #[.int .u8 0, .int .i64 0] | some x => .tuple #[.int .u8 x.1.toNat, .int .i64 ((x.2 : Int) + 1)]
set_option maxRecDepth 100000 in
set_option maxHeartbeats 8000000 in
theorem rpart_any (l : List UInt8) (w : World) (hl : l.length ≤ 1000000) : Calls Tryz.prog 128 #[.string (bs l)] w fun e w' => e = .returned (partr l) ∧ w' = w := by
  cases l with
  | nil =>
    go_enter Tryz.func128, Tryz.ntmps128
    go_wp2_with fail
    all_goals go_ret2
    all_goals exact ⟨rfl, rfl⟩
  | cons c r =>
    have hb := c.toNat_lt
    simp only [List.length_cons] at hl
    by_cases h1 : c.toNat < 32 ∨ c.toNat = 34
    · have hp : partr (c :: r) = .tuple #[.int .u8 0, .int .i64 0] := by unfold partr; rw [part_cons, if_pos h1]
      rw [hp]
      go_enter Tryz.func128, Tryz.ntmps128
      go_wp2_with fail
      all_goals go_ret2
      all_goals first | exact ⟨rfl, rfl⟩ | (exfalso; (try simp only [beq_iff_eq, bne_iff_ne, beq_eq_false_iff_ne, ne_eq, Bool.not_eq_true, decide_eq_true_eq, decide_eq_false_iff_not, Bool.or_eq_true, Bool.or_eq_false_iff, Bool.and_eq_true, Bool.and_eq_false_iff, bne_eq_false_iff_eq, Bool.not_eq_true', Bool.not_eq_false'] at *); omega) | fail
    · by_cases h2 : c.toNat = 92
      · have he : partr (c :: r) = escp r := by
          unfold partr escp; rw [part_cons, if_neg h1, if_neg (by simpa using h2)]; cases escd r <;> rfl
        rw [he]
        cases r with
        | nil =>
          have hv : escp [] = .tuple #[.int .u8 0, .int .i64 0] := rfl
          rw [hv]
          go_enter Tryz.func128, Tryz.ntmps128
          go_wp2_with fail
          all_goals go_ret2
          all_goals first | exact ⟨rfl, rfl⟩ | fail
        | cons d r =>
          simp only [List.length_cons] at hl
          have hd := d.toNat_lt
          by_cases d1 : d.toNat = 34 ∨ d.toNat = 92
          · have hv : escp (d :: r) = .tuple #[.int .u8 d.toNat, .int .i64 2] := by unfold escp; rw [escd_mark d r d1]; rfl
            rw [hv]
            go_enter Tryz.func128, Tryz.ntmps128
            go_wp2_with fail
            all_goals go_ret2
            all_goals first | exact ⟨rfl, rfl⟩ | fail
          by_cases d2 : d.toNat = 110
          · have hv : escp (d :: r) = .tuple #[.int .u8 10, .int .i64 2] := by unfold escp; rw [escd_n d r d2]; rfl
            rw [hv]
            go_enter Tryz.func128, Tryz.ntmps128
            go_wp2_with fail
            all_goals go_ret2
            all_goals first | exact ⟨rfl, rfl⟩ | fail
          by_cases d3 : d.toNat = 116
          · have hv : escp (d :: r) = .tuple #[.int .u8 9, .int .i64 2] := by unfold escp; rw [escd_t d r d3]; rfl
            rw [hv]
            go_enter Tryz.func128, Tryz.ntmps128
            go_wp2_with fail
            all_goals go_ret2
            all_goals first | exact ⟨rfl, rfl⟩ | fail
          by_cases d4 : d.toNat = 120
          · rcases r with _ | ⟨x, _ | ⟨y, r⟩⟩
            · have hv : escp [d] = .tuple #[.int .u8 0, .int .i64 0] := by unfold escp; rw [escd_x0 d d4]
              rw [hv]
              go_enter Tryz.func128, Tryz.ntmps128
              go_wp2_with fail
              all_goals go_ret2
              all_goals first | exact ⟨rfl, rfl⟩ | fail
            · have hv : escp [d, x] = .tuple #[.int .u8 0, .int .i64 0] := by unfold escp; rw [escd_x1 d x d4]
              rw [hv]
              go_enter Tryz.func128, Tryz.ntmps128
              go_wp2_with fail
              all_goals go_ret2
              all_goals first | exact ⟨rfl, rfl⟩ | fail
            · simp only [List.length_cons] at hl
              cases hx : hexv x with
              | none =>
                have hv : escp (d :: x :: y :: r) = .tuple #[.int .u8 0, .int .i64 0] := by unfold escp; rw [escd_x d x y r d4, hx]; rfl
                rw [hv]
                cases hy : hexv y with
                | none =>
                  go_enter Tryz.func128, Tryz.ntmps128
                  go_wp2_with fail
                  refine Calls.mono (rhalf_any x _) ?_
                  rintro e w1 ⟨rfl, rfl⟩
                  unfold hexr
                  rw [hx]
                  go_wp2_with fail
                  refine Calls.mono (rhalf_any y _) ?_
                  rintro e w2 ⟨rfl, rfl⟩
                  unfold hexr
                  rw [hy]
                  go_wp2_with fail
                  all_goals go_ret2
                  all_goals first | exact ⟨rfl, rfl⟩ | fail
                | some n =>
                  go_enter Tryz.func128, Tryz.ntmps128
                  go_wp2_with fail
                  refine Calls.mono (rhalf_any x _) ?_
                  rintro e w1 ⟨rfl, rfl⟩
                  unfold hexr
                  rw [hx]
                  go_wp2_with fail
                  refine Calls.mono (rhalf_any y _) ?_
                  rintro e w2 ⟨rfl, rfl⟩
                  unfold hexr
                  rw [hy]
                  go_wp2_with fail
                  all_goals go_ret2
                  all_goals first | exact ⟨rfl, rfl⟩ | fail
              | some m =>
                cases hy : hexv y with
                | none =>
                  have hv : escp (d :: x :: y :: r) = .tuple #[.int .u8 0, .int .i64 0] := by unfold escp; rw [escd_x d x y r d4, hx, hy]; rfl
                  rw [hv]
                  go_enter Tryz.func128, Tryz.ntmps128
                  go_wp2_with fail
                  refine Calls.mono (rhalf_any x _) ?_
                  rintro e w1 ⟨rfl, rfl⟩
                  unfold hexr
                  rw [hx]
                  go_wp2_with fail
                  refine Calls.mono (rhalf_any y _) ?_
                  rintro e w2 ⟨rfl, rfl⟩
                  unfold hexr
                  rw [hy]
                  go_wp2_with fail
                  all_goals go_ret2
                  all_goals first | exact ⟨rfl, rfl⟩ | fail
                | some n =>
                  have hv : escp (d :: x :: y :: r) = .tuple #[.int .u8 ((16 * m + n : Nat) : Int), .int .i64 4] := by
                    have hm := hexv_lt hx
                    have hn := hexv_lt hy
                    unfold escp; rw [escd_x d x y r d4, hx, hy]; simp; omega
                  rw [hv]
                  have hm := hexv_lt hx
                  have hn := hexv_lt hy
                  have x1 : IntKind.u8.wrap (16 * (m : Int)) = 16 * m := IntWalk.u8_in _ (by omega)
                  have x2 : IntKind.u8.wrap (16 * (m : Int) + n) = 16 * m + n := IntWalk.u8_in _ (by omega)
                  go_enter Tryz.func128, Tryz.ntmps128
                  go_wp2_with fail
                  refine Calls.mono (rhalf_any x _) ?_
                  rintro e w1 ⟨rfl, rfl⟩
                  unfold hexr
                  rw [hx]
                  go_wp2_with fail
                  refine Calls.mono (rhalf_any y _) ?_
                  rintro e w2 ⟨rfl, rfl⟩
                  unfold hexr
                  rw [hy]
                  go_wp2_with fail
                  all_goals go_ret2
                  all_goals first | exact ⟨rfl, rfl⟩ | fail
          · have hv : escp (d :: r) = .tuple #[.int .u8 0, .int .i64 0] := by unfold escp; rw [escd_no d r (by omega)]
            rw [hv]
            go_enter Tryz.func128, Tryz.ntmps128
            go_wp2_with fail
            all_goals go_ret2
            all_goals first | exact ⟨rfl, rfl⟩ | fail
      · have hp : partr (c :: r) = .tuple #[.int .u8 c.toNat, .int .i64 1] := by unfold partr; rw [part_cons, if_neg h1, if_pos h2]; rfl
        rw [hp]
        go_enter Tryz.func128, Tryz.ntmps128
        go_wp2_with fail
        all_goals go_ret2
        all_goals first | exact ⟨rfl, rfl⟩ | (exfalso; (try simp only [beq_iff_eq, bne_iff_ne, beq_eq_false_iff_ne, ne_eq, Bool.not_eq_true, decide_eq_true_eq, decide_eq_false_iff_not, Bool.or_eq_true, Bool.or_eq_false_iff, Bool.and_eq_true, Bool.and_eq_false_iff, bne_eq_false_iff_eq, Bool.not_eq_true', Bool.not_eq_false'] at *); omega) | fail
end Go.Proofs.YtkhhlmonhapmaaaGreatDoor
namespace Go.Proofs.YtkhhlmonhapmaaaGreatDoor
open Go.RowKit
theorem plc_app (p : Nat × Nat) (a b : List UInt8) : plc p (a ++ b) = plc (plc p a) b := by
  induction a generalizing p with
  | nil => rfl
  | cons c r ih => exact ih _
theorem plc_snoc (p : Nat × Nat) (l : List UInt8) (k : Nat) (h : k < l.length) : plc p (l.take (k + 1)) = if l[k].toNat = 10 then ((plc p (l.take k)).1 + 1, 1) else ((plc p (l.take k)).1, (plc p (l.take k)).2 + 1) := by
  rw [List.take_succ_eq_append_getElem h, plc_app]; rfl
theorem plc_le (p : Nat × Nat) (l : List UInt8) : (plc p l).1 ≤ p.1 + l.length ∧ (plc p l).2 ≤ p.2 + l.length + 1 := by
  induction l generalizing p with
  | nil => simp [plc]
  | cons c r ih =>
    have := ih (if c.toNat = 10 then (p.1 + 1, 1) else (p.1, p.2 + 1))
    simp only [plc, List.length_cons]
    split at this <;> rename_i hc <;> simp only [hc, if_true, if_false] <;> simp only at this <;> omega
set_option maxRecDepth 100000 in
set_option maxHeartbeats 800000 in
theorem rwhere_any (l : List UInt8) (n : Nat) (w : World) (hl : l.length ≤ 1000000) (hn : n ≤ l.length) : Calls Tryz.prog 58 #[.string (bs l), .int .i64 n] w fun e w' =>
    e = .returned (.tuple #[.int .i64 ((plc (1, 1) (l.take n)).1 : Nat), .int .i64 ((plc (1, 1) (l.take n)).2 : Nat)]) ∧ w' = w := by
  go_enter Tryz.func58, Tryz.ntmps58
  go_wp2_with fail
  go_loop [6, 7, 8] (fun a b i => ∃ k : Nat, k ≤ n ∧ i = .int .i64 k ∧ a = .int .i64 ((plc (1, 1) (l.take k)).1 : Nat) ∧ b = .int .i64 ((plc (1, 1) (l.take k)).2 : Nat)) (fun _ _ i => n - (intOf i).toNat)
  case atStart => exact ⟨0, by omega, rfl, rfl, rfl⟩
  case round =>
    obtain ⟨k, hk, rfl, rfl, rfl⟩ := hrel
    have hp := plc_le (1, 1) (l.take k)
    rw [List.length_take] at hp
    simp only at hp
    by_cases hlt : k < n
    · have hs := plc_snoc (1, 1) l k (by omega)
      by_cases h10 : l[k].toNat = 10
      · rw [if_pos h10] at hs
        have hs1 := Lib.hid (congrArg Prod.fst hs)
        have hs2 := Lib.hid (congrArg Prod.snd hs)
        clear hs
        go_wp2_with fail
        all_goals go_round
        case rel => exact ⟨k + 1, by omega, by go_num, by rw [hs1.out]; go_num, by rw [hs2.out]; rfl⟩
        case measure => simp [intOf]; omega
      · rw [if_neg h10] at hs
        have hs1 := Lib.hid (congrArg Prod.fst hs)
        have hs2 := Lib.hid (congrArg Prod.snd hs)
        clear hs
        have hb : ((l[k].toNat : Int) == 10) = false := by rw [beq_eq_false_iff_ne]; omega
        go_wp2_with fail
        all_goals go_round
        case rel => exact ⟨k + 1, by omega, by go_num, by rw [hs1.out], by rw [hs2.out]; go_num⟩
        case measure => simp [intOf]; omega
    · have : k = n := by omega
      subst this
      go_wp2_with fail
      go_ret2
      exact ⟨rfl, rfl⟩
set_option maxRecDepth 100000 in
set_option maxHeartbeats 800000 in
theorem rskip_any (l : List UInt8) (w : World) (hl : l.length ≤ 1000000) : Calls Tryz.prog 57 #[.string (bs l)] w fun e w' => e = .returned (.int .i64 (skp l : Nat)) ∧ w' = w := by
  go_enter Tryz.func57, Tryz.ntmps57
  go_wp2_with fail
  go_loop [3] (fun i => ∃ k : Nat, k ≤ l.length ∧ i = .int .i64 k ∧ Hid (skp l = k + skp (l.drop k))) (fun i => l.length - (intOf i).toNat)
  case atStart => exact ⟨0, by omega, rfl, Lib.hid (by simp)⟩
  case round =>
    obtain ⟨k, hk, rfl, hS⟩ := hrel
    by_cases hlt : k < l.length
    · have hd := Lib.hid (drop_cons hlt)
      by_cases h1 : l[k].toNat = 32 ∨ l[k].toNat = 9 ∨ l[k].toNat = 10 ∨ l[k].toNat = 13
      · have hS2 : Hid (skp l = (k + 1 : Nat) + skp (l.drop (k + 1))) := Lib.hid (by rw [hS.out, hd.out, skp_blank _ _ h1]; omega)
        clear hS hd
        go_wp2_with fail
        all_goals first | (go_round; (case rel => exact ⟨k + 1, by omega, by go_num, hS2⟩); (case measure => simp [intOf]; omega)) | (exfalso; (try simp only [beq_iff_eq, bne_iff_ne, beq_eq_false_iff_ne, ne_eq, Bool.not_eq_true, decide_eq_true_eq, decide_eq_false_iff_not, Bool.or_eq_true, Bool.or_eq_false_iff, Bool.and_eq_true, Bool.and_eq_false_iff, bne_eq_false_iff_eq, Bool.not_eq_true', Bool.not_eq_false'] at *); omega) | fail
      · by_cases h2 : l[k].toNat = 35
        · have hS2 : Hid (skp l = k + cmt (l.drop k) + skp (l.drop (k + cmt (l.drop k)))) := Lib.hid (by
            rw [hS.out, hd.out, skp_cmt _ _ h2, ← hd.out, List.drop_drop]; omega)
          clear hS hd
          have b1 : ((l[k].toNat : Int) == 32) = false := by rw [beq_eq_false_iff_ne]; omega
          have b2 : ((l[k].toNat : Int) == 9) = false := by rw [beq_eq_false_iff_ne]; omega
          have b3 : ((l[k].toNat : Int) == 10) = false := by rw [beq_eq_false_iff_ne]; omega
          have b4 : ((l[k].toNat : Int) == 13) = false := by rw [beq_eq_false_iff_ne]; omega
          go_wp2_with fail
          go_loop [3] (fun i => ∃ j : Nat, k ≤ j ∧ j ≤ l.length ∧ i = .int .i64 j ∧ Hid (skp l = j + cmt (l.drop j) + skp (l.drop (j + cmt (l.drop j)))) ∧ (j = k → l[k].toNat = 35)) (fun i => l.length - (intOf i).toNat)
          case atStart => exact ⟨k, by omega, hk, rfl, hS2, fun _ => h2⟩
          case round =>
            obtain ⟨j, hkj, hj, rfl, hJ, hj0⟩ := hrel
            by_cases hlj : j < l.length
            · have hd := Lib.hid (drop_cons hlj)
              by_cases h10 : l[j].toNat = 10
              · have hne : k < j := by
                  rcases Nat.lt_or_ge k j with h | h
                  · exact h
                  · have : j = k := by omega
                    subst this; omega
                have hJ2 : Hid (skp l = j + skp (l.drop j)) := Lib.hid (by
                  have := hJ.out
                  rw [hd.out, cmt_no _ _ h10, Nat.add_zero, hd.out] at this
                  rw [this, hd.out])
                clear hS2 hJ hd
                have c1 : ((l[j].toNat : Int) != 10) = false := by rw [bne_eq_false_iff_eq]; omega
                go_wp2_with fail
                go_round
                case rel => exact ⟨j, hj, rfl, hJ2⟩
                case measure => simp [intOf]; omega
              · have hJ2 : Hid (skp l = (j + 1 : Nat) + cmt (l.drop (j + 1)) + skp (l.drop ((j + 1 : Nat) + cmt (l.drop (j + 1))))) := Lib.hid (by
                  have := hJ.out
                  rw [hd.out, cmt_yes _ _ h10] at this
                  rw [this]
                  have e : j + (cmt (l.drop (j + 1)) + 1) = j + 1 + cmt (l.drop (j + 1)) := by omega
                  rw [e])
                clear hS2 hJ hd
                have c1 : ((l[j].toNat : Int) != 10) = true := by rw [bne_iff_ne]; omega
                go_wp2_with fail
                go_round
                case rel => exact ⟨j + 1, by omega, by omega, by go_num, hJ2, by omega⟩
                case measure => simp [intOf]; omega
            · have hne : k < j := by omega
              have hJ2 : Hid (skp l = j + skp (l.drop j)) := Lib.hid (by
                have := hJ.out
                rw [List.drop_eq_nil_of_le (show l.length ≤ j by omega)] at *
                simpa [cmt, List.drop_eq_nil_of_le (show l.length ≤ j by omega)] using this)
              clear hS2 hJ
              go_wp2_with fail
              go_round
              case rel => exact ⟨j, hj, rfl, hJ2⟩
              case measure => simp [intOf]; omega
        · have hS2 : Hid (skp l = k) := Lib.hid (by rw [hS.out, hd.out, skp_no _ _ h1 h2]; omega)
          clear hS hd
          have b1 : ((l[k].toNat : Int) == 32) = false := by rw [beq_eq_false_iff_ne]; omega
          have b2 : ((l[k].toNat : Int) == 9) = false := by rw [beq_eq_false_iff_ne]; omega
          have b3 : ((l[k].toNat : Int) == 10) = false := by rw [beq_eq_false_iff_ne]; omega
          have b4 : ((l[k].toNat : Int) == 13) = false := by rw [beq_eq_false_iff_ne]; omega
          have b5 : ((l[k].toNat : Int) == 35) = false := by rw [beq_eq_false_iff_ne]; omega
          go_wp2_with fail
          go_ret
          exact ⟨ret_i64 (by rw [hS2.out]), rfl⟩
    · have hS2 : Hid (skp l = k) := Lib.hid (by rw [hS.out, List.drop_eq_nil_of_le (by omega), skp_nil]; omega)
      clear hS
      go_wp2_with fail
      go_ret
      exact ⟨ret_i64 (by rw [hS2.out]), rfl⟩
end Go.Proofs.YtkhhlmonhapmaaaGreatDoor
