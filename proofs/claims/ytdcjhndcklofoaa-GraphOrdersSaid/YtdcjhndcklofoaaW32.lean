import Derived.Test.YtdcjhndcklofoaaW31
import Derived.Test.YtdcjhndcklofoaaW0
import Derived.ProofKit
import Derived.OpenShut
import Derived.ShutString
import Derived.ChangeOld
import Derived.Lib.SmallJoins
import Derived.SizedLaws
import Derived.Test.YtdcjhndcklofoaaW14
/- The mill: at most four jobs. -/
namespace Go.Proofs.Ytdcjhndcklofoaa
open Go.RowKit
set_option linter.unusedSimpArgs false
set_option linter.unusedVariables false
def names4 : List (List UInt8) := [[97], [98], [99], [100]]
theorem pick_names4 {v : Nat} (h : v < 4) : (List.drop v [.x (.string ⟨#[97]⟩), .x (.string ⟨#[98]⟩), .x (.string ⟨#[99]⟩), .x (.string ⟨#[100]⟩)]).getD 0 AV.top = .x (.string (bs (names4.getD v []))) := pick_sa names4 v h
theorem take_names4 {v : Nat} (h : v ≤ 4) : AV.sq (v - 0) (List.take (v - 0) [.x (.string ⟨#[97]⟩), .x (.string ⟨#[98]⟩), .x (.string ⟨#[99]⟩), .x (.string ⟨#[100]⟩)]) = .sq (names4.take v).length (sa (names4.take v)) := by
  match v, h with
  | 0, _ => rfl
  | 1, _ => rfl
  | 2, _ => rfl
  | 3, _ => rfl
  | 4, _ => rfl
theorem jfa_app' (l m : List JF) : jfa (l ++ m) = jfa l ++ jfa m := by simp [jfa]
theorem names4_mem (v : Nat) : ∀ s ∈ names4.take v, s.length ≤ 8 := fun s hs => by
  have := List.mem_of_mem_take hs
  simp only [names4, List.mem_cons, List.not_mem_nil, or_false] at this
  rcases this with rfl | rfl | rfl | rfl <;> simp
set_option maxRecDepth 100000 in
set_option maxHeartbeats 8000000 in
theorem jobs_w (bd : Nat) (l : List Int) (k : Nat) (hd : DK l) (hk : k ≤ l.length) : Spec Try.prog 6 [.box bd [.sq l.length (ia l), .x (.int .i64 k)]] [.x (.pointer (some ⟨bd, 0, none⟩))] (fun r H' => ∃ (js : List JF) (k' : Nat), r = .sq js.length (jfa js) ∧ H' = [.box bd [.sq l.length (ia l), .x (.int .i64 k')]] ∧ k' ≤ l.length ∧ js.length ≤ 4 ∧ ∀ j ∈ js, JSmall j) := by
  refine Spec_of Try.func6 rfl ?_
  simp only [Try.ntmps6, List.length_cons, List.length_nil, List.replicate_succ, List.replicate_zero, List.cons_append, List.nil_append, Nat.reduceAdd, Nat.reduceSub]
  (repeat' (first | with_reducible (first | refine awp_seq ?_ | refine awp_region ?_ | refine awp_block ?_ | refine awpL_nil ?_ | refine thenA_normal ?_) | ((apply awpL_evl2 rfl); (case h => ((try (intro (hp : (_ : Bool) = true); ((try simp only [Bool.and_eq_true, Bool.not_eq_true', Bool.not_eq_true] at hp); (try simp only [hp, wte]); (try simp only [whn] at hp)))); (first | (apply Evl_k 0 rfl; (first | exact Evl_mv _ rfl | exact Evl_as _ rfl)) | (apply Evl_k 17 rfl; (exact Evl_rowall _ _ _ _ _ _ rfl HElem.out rfl (by first | rfl | fail) rfl rfl (by decide)))))); (case hT => ((try simp only [wtn, List.append_eq, List.foldl_cons, List.foldl_nil, List.map_cons, List.map_nil, Nat.reduceAdd, Nat.reduceMul, Nat.reduceSub, ↓reduceIte, Nat.reduceEqDiff]); rfl))) | (refine awpL_cons rfl ?_; (((refine Stp_k 11 rfl ?_; (first | (refine Stp_call 14 Try.f14 [_] _ _ _ rfl rfl Try.func14 (by decide) rfl (List.Perm.refl _) (VwL.refl _ _) (next_w _ l k 2 hd hk (by omega) (by omega)) ?_; rintro _ _ ⟨v1, k1, rfl, rfl, hv1, hk1⟩) | (refine Stp_call 15 Try.f15 [_] _ _ _ rfl rfl Try.func15 (by decide) rfl (List.Perm.refl _) (VwL.refl _ _) (range_w _ l k1 1 4 hd hk1 (by omega) (by omega)) ?_; rintro _ _ ⟨v2, k2, rfl, rfl, hv2, hv2', hk2⟩)))); apply awpL_cong; (case hT => ((try simp only [wtn, List.append_eq, List.foldl_cons, List.foldl_nil, List.map_cons, List.map_nil, Nat.reduceAdd, Nat.reduceMul, Nat.reduceSub, ↓reduceIte, Nat.reduceEqDiff]); rfl)); (case hH => ((try simp only [wtn, List.append_eq, List.foldl_cons, List.foldl_nil, List.map_cons, List.map_nil, Nat.reduceAdd, Nat.reduceMul, Nat.reduceSub, ↓reduceIte, Nat.reduceEqDiff]); rfl)))) | fail))
  refine awp_nilrow 38 15 ?_
  apply awp_loopS (S := Nat × Nat × List JF × Option Addr × Nat) (fun s => frm 39 [(0, .x (.pointer (some ⟨bd, 0, none⟩))), (3, .x (.slice s.2.2.2.1 s.2.2.1.length s.2.2.2.2)), (4, .sq 4 [.x (.string ⟨#[97]⟩), .x (.string ⟨#[98]⟩), .x (.string ⟨#[99]⟩), .x (.string ⟨#[100]⟩)]), (5, .x (.int .i64 v1)), (6, .x (.int .i64 v2)), (7, .x (.int .i64 s.1))])
    (fun s => [.row s.2.2.2.1 s.2.2.1.length s.2.2.2.2 38 15 (jfa s.2.2.1), .box bd [.sq l.length (ia l), .x (.int .i64 s.2.1)]]) (fun s => s.1 ≤ v2 ∧ s.2.1 ≤ l.length ∧ s.2.2.1.length = s.1 ∧ ∀ j ∈ s.2.2.1, JSmall j) (fun s => v2 - s.1) (0, k2, [], none, 0)
  case h0 => exact (Weak.mk' [] _ (List.Perm.refl _) (VwHs.refl _ _) (by (repeat' (first | exact VwL.nil | (refine VwL.cons ?_ ?_) | exact Vw.refl _ | exact Vw.top _ | fail))))
  case hi => exact ⟨Nat.zero_le _, hk2, rfl, by simp⟩
  rintro ⟨i, kk, js, ad, cap⟩ ⟨g1, g2, g3, g4⟩
  simp only at g1 g2 g3 g4
  have g4' := Lib.hid g4
  clear g4
  simp only [frm, List.replicate_succ, List.replicate_zero, List.foldl_cons, List.foldl_nil, List.set_cons_zero, List.set_cons_succ]
  by_cases hlt : i < v2
  · (repeat' (first | with_reducible (first | refine awp_seq ?_ | refine awp_region ?_ | refine awp_block ?_ | refine awp_skip ?_ | refine awpL_nil ?_ | refine thenA_normal ?_) | (refine awp_cond _ rfl (fun h => ?_) (fun h => ?_) <;> ((try (simp only [whn] at h)); first | (exfalso; omega; done) | skip)) | ((apply awpL_evl2 rfl); (case h => ((try (intro (hp : (_ : Bool) = true); ((try simp only [Bool.and_eq_true, Bool.not_eq_true', Bool.not_eq_true] at hp); (try simp only [hp, wte]); (try simp only [whn] at hp)))); (first | (apply Evl_k 0 rfl; (exact Evl_mv _ rfl)) | (apply Evl_x; (case hs => (intro _ _ h; cases h)); (case hx => rfl); (case hrun => (intro w; simp [wtb, AV.val, go_sem]; (try go_bits); rfl)))))); (case hT => ((try simp only [wtn, List.append_eq, List.foldl_cons, List.foldl_nil, List.map_cons, List.map_nil, Nat.reduceAdd, Nat.reduceMul, Nat.reduceSub, ↓reduceIte, Nat.reduceEqDiff]); rfl))) | fail))
    refine awp_mix (B := []) (R := [_, _]) mixed [0, 1, 2, 3, 4, 5, 6, 7, 8] [8] [10] (some 9) _ 1 (List.Perm.refl _) (by decide +kernel) rfl (mix_alloc rfl rfl rfl HZero.out rfl rfl) (by decide) ?_
    (repeat' (first | (apply dm_quiet rfl rfl; (case h => (intro H1; (try simp only [List.cons_append, List.nil_append]); (first | (apply Evl_k 0 rfl; (exact Evl_mv _ rfl)) | (apply Evl_k 6 rfl; (exact Evl_load_at _ _ _ _ _ rfl rfl HAgg.out (by first | (simp [wlq]; omega) | fail) (by first | (simp [wlq]; omega) | fail))) | (apply Evl_k 7 rfl; (exact Evl_index_sq _ _ _ _ _ _ _ _ _ _ rfl rfl rfl HEl.out rfl (by first | omega | fail) (by simp; first | done | fail))) | (apply Evl_k 9 rfl; (exact Evl_slice_sq _ _ _ _ _ _ _ _ _ _ rfl rfl HEl.out (by first | exact .inl ⟨rfl, rfl⟩ | fail) (by first | exact .inr ⟨_, _, rfl, rfl⟩ | fail) (by omega) (by omega)))))); (case hT => ((try simp (disch := omega) only [wtn, pick_names4, take_names4, JF.cells, List.append_eq, List.foldl_cons, List.foldl_nil, List.map_cons, List.map_nil, Nat.reduceAdd, Nat.reduceMul, Nat.reduceSub, ↓reduceIte, Nat.reduceEqDiff]); rfl))) | (apply dm_loud rfl rfl; ((refine Stp_k 11 rfl ?_; ((refine Stp_call 16 Try.f16 [_] _ _ _ rfl rfl Try.func16 (by decide) rfl (List.perm_middle (l₁ := [_])) (VwL.refl _ _) (mjob_w _ l kk hd g2 (names4.getD i []) (names4.take i) (allD names4 (fun s => s.length ≤ 8) (by decide) i (by simp [names4]; omega)) (by simp [names4]; omega) (names4_mem i)) ?_; rintro _ _ ⟨j, k3, rfl, rfl, hk3, hj⟩)))); refine ⟨_, rfl, ?_⟩; apply dm_cong; (case hT => ((try simp (disch := omega) only [wtn, pick_names4, take_names4, JF.cells, List.append_eq, List.foldl_cons, List.foldl_nil, List.map_cons, List.map_nil, Nat.reduceAdd, Nat.reduceMul, Nat.reduceSub, ↓reduceIte, Nat.reduceEqDiff]); rfl)); (case hH => ((try simp (disch := omega) only [wtn, pick_names4, take_names4, JF.cells, List.append_eq, List.foldl_cons, List.foldl_nil, List.map_cons, List.map_nil, Nat.reduceAdd, Nat.reduceMul, Nat.reduceSub, ↓reduceIte, Nat.reduceEqDiff]); rfl))) | fail))
    (first | (refine dm_end_alloc rfl (fun b => ?_)) | fail); (apply awpA_cong; (case hT => ((try simp only [wtn, List.append_eq, List.foldl_cons, List.foldl_nil, List.map_cons, List.map_nil, Nat.reduceAdd, Nat.reduceMul, Nat.reduceSub, ↓reduceIte, Nat.reduceEqDiff]); rfl)); (case hH => (simp only [List.cons_append, List.nil_append]; rfl))); (refine awpA_1 10 (by decide +kernel) rfl rfl ?_; (first | (((refine Stp_k 16 rfl ?_; ((refine Stp_store _ _ _ _ _ _ _ rfl rfl FBox.out HSize.out (by first | rfl | fail) (by first | exact Nat.le_of_ble_eq_true rfl | fail) ?_)))); apply awpA_cong; (case hT => ((try simp only [wtn, List.append_eq, List.foldl_cons, List.foldl_nil, List.map_cons, List.map_nil, Nat.reduceAdd, Nat.reduceMul, Nat.reduceSub, ↓reduceIte, Nat.reduceEqDiff]); rfl)); (case hH => ((try simp only [wtn, List.append_eq, List.foldl_cons, List.foldl_nil, List.map_cons, List.map_nil, Nat.reduceAdd, Nat.reduceMul, Nat.reduceSub, ↓reduceIte, Nat.reduceEqDiff]); rfl))) | fail)); refine awpA_done (by decide +kernel) ?_
    (repeat' (first | with_reducible (first | refine awp_seq ?_ | refine awp_region ?_ | refine awpL_nil ?_ | refine thenA_normal ?_ | refine inBlockA_normal ?_) | (refine awp_cond _ rfl (fun h => ?_) (fun h => ?_) <;> ((try (simp only [whn] at h)); skip)) | ((apply awpL_evl2 rfl); (case h => ((try (intro (hp : (_ : Bool) = true); ((try simp only [Bool.and_eq_true, Bool.not_eq_true', Bool.not_eq_true] at hp); (try simp only [hp, wte]); (try simp only [whn] at hp)))); (first | (apply Evl_k 0 rfl; (first | exact Evl_mv _ rfl | exact Evl_as _ rfl)) | (apply Evl_k 6 rfl; (exact Evl_load _ _ _ _ _ _ _ _ rfl rfl FBox.out HAgg.out (by first | exact Nat.le_of_ble_eq_true rfl | fail) (by first | exact Nat.le_of_ble_eq_true rfl | fail))) | (apply Evl_x; (case hs => (intro _ _ h; cases h)); (case hx => rfl); (case hrun => (intro w; simp [wtb, AV.val, go_sem]; (try go_bits); rfl)))))); (case hT => ((try simp only [wtn, List.append_eq, List.foldl_cons, List.foldl_nil, List.map_cons, List.map_nil, Nat.reduceAdd, Nat.reduceMul, Nat.reduceSub, ↓reduceIte, Nat.reduceEqDiff]); rfl))) | (refine awpL_cons rfl ?_; ((first | (refine Stp_k 13 rfl ?_; ((refine Stp_append _ _ _ _ _ _ _ _ _ _ _ _ _ _ rfl rfl FRow.out (Src.row _ rfl FRow.out) HElem.out (by first | rfl | (simp; done) | fail) (fits _ _ (by omega) (by decide)) (fun ad cap => ?_)))) | (refine Stp_k 17 rfl ?_; ((refine Stp_buildSlice _ _ _ _ _ _ _ _ rfl HElem.out (by first | rfl | fail) rfl (by decide) rfl (fun b => ?_))))); apply awpL_cong; (case hT => ((try simp only [wtn, List.append_eq, List.foldl_cons, List.foldl_nil, List.map_cons, List.map_nil, Nat.reduceAdd, Nat.reduceMul, Nat.reduceSub, ↓reduceIte, Nat.reduceEqDiff]); rfl)); (case hH => ((try simp only [wtn, List.append_eq, List.foldl_cons, List.foldl_nil, List.map_cons, List.map_nil, Nat.reduceAdd, Nat.reduceMul, Nat.reduceSub, ↓reduceIte, Nat.reduceEqDiff]); rfl)))) | fail))
    · refine ⟨(i + 1, k3, js ++ [j], ad, cap), by simp only; omega, ⟨by simp only; omega, hk3, by simp only [List.length_append, List.length_cons, List.length_nil]; omega, fun x hx => ?_⟩, ?_⟩
      · rcases List.mem_append.1 hx with hx | hx
        · exact g4'.out x hx
        · rw [List.mem_singleton] at hx; subst hx; exact hj
      · simp only [jfa_app', List.length_append, List.length_cons, List.length_nil]
        exact Weak.mk' [_, _] [.row ad _ cap _ _ _, .box bd _] (List.Perm.trans (l₂ := [.row ad _ cap _ _ _, .box bd _] ++ [_, _]) (by (repeat' (first | exact List.Perm.refl _ | refine (List.perm_middle (l₁ := [_, _])).trans (List.Perm.cons _ ?_) | refine (List.perm_middle (l₁ := [_, _, _])).trans (List.Perm.cons _ ?_) | fail))) List.perm_append_comm) (VwHs.refl _ _) (by (repeat' (first | exact VwL.nil | (refine VwL.cons ?_ ?_) | exact Vw.refl _ | exact Vw.top _ | fail)))
    · refine ⟨(i + 1, k3, [j] ++ js, ad, cap), by simp only; omega, ⟨by simp only; omega, hk3, by simp only [List.length_append, List.length_cons, List.length_nil]; omega, fun x hx => ?_⟩, ?_⟩
      · rcases List.mem_append.1 hx with hx | hx
        · rw [List.mem_singleton] at hx; subst hx; exact hj
        · exact g4'.out x hx
      · simp only [jfa_app', List.length_append, List.length_cons, List.length_nil]
        exact Weak.mk' [_, _] [.row ad _ cap _ _ _, .box bd _] (List.Perm.trans (l₂ := [.row ad _ cap _ _ _, .box bd _] ++ [_, _]) (by (repeat' (first | exact List.Perm.refl _ | refine List.Perm.cons _ ?_ | refine (List.perm_middle (l₁ := [_])).trans (List.Perm.cons _ ?_) | fail))) List.perm_append_comm) (VwHs.refl _ _) (by (repeat' (first | exact VwL.nil | (refine VwL.cons ?_ ?_) | exact Vw.refl _ | exact Vw.top _ | fail)))
  · (repeat' (first | with_reducible (first | refine awp_seq ?_ | refine awp_region ?_ | refine awp_ret ?_ | refine awp_exit ?_ | refine awpL_nil ?_ | refine thenA_normal ?_ | refine thenA_exit ?_ | refine inBlockA_eq ?_) | (refine awp_cond _ rfl (fun h => ?_) (fun h => ?_) <;> ((try (simp only [whn] at h)); first | (exfalso; omega; done) | skip)) | ((apply awpL_evl2 rfl); (case h => ((try (intro (hp : (_ : Bool) = true); ((try simp only [Bool.and_eq_true, Bool.not_eq_true', Bool.not_eq_true] at hp); (try simp only [hp, wte]); (try simp only [whn] at hp)))); (first | (apply Evl_k 0 rfl; (first | exact Evl_mv _ rfl | exact Evl_as _ rfl)) | (apply Evl_x; (case hs => (intro _ _ h; cases h)); (case hx => rfl); (case hrun => (intro w; simp [wtb, AV.val, go_sem]; (try go_bits); rfl)))))); (case hT => ((try simp only [wtn, List.append_eq, List.foldl_cons, List.foldl_nil, List.map_cons, List.map_nil, Nat.reduceAdd, Nat.reduceMul, Nat.reduceSub, ↓reduceIte, Nat.reduceEqDiff]); rfl))) | fail))
    refine endA_ret _ _ (Res1 rfl (RV.tmp _) (Weak.mk' [_] [_] (List.Perm.refl _) (VwHs.refl _ _) (VwL.cons (Vw.row (List.Mem.head _) (VwL.refl _ _)) VwL.nil))) ⟨js, kk, rfl, rfl, g2, by omega, g4'.out⟩
end Go.Proofs.Ytdcjhndcklofoaa
/- How a law's arguments are opened: what the reading of a []byte, a []int or a struct gives the walk. No program in sight. -/
namespace Go.Proofs.Ytdcjhndcklofoaa
open Go.ChangeShapes Go.WideShapes Go.ChangeAt Go.RowKit Go.Joins
set_option linter.unusedSimpArgs false
set_option linter.unusedVariables false
/-- A []int that reads as l. -/
def Is (lo : Nat) (w : World) (v : Value) (l : List Int) : Prop := Sl lo w v l.length (l.map (Value.int .i64))
theorem Is.mono {lo : Nat} {w w' : World} {v : Value} {l : List Int} (h : Is lo w v l) (hb : Ext w w') : Is lo w' v l := Sl.mono h hb
theorem Is.shape {lo : Nat} {w : World} {v : Value} {l : List Int} (h : Is lo w v l) : ∃ ad cap, v = .slice ad l.length cap ∧ l.length ≤ cap := Sl.shape h
def I64s (l : List Int) : Prop := ∀ x ∈ l, -9223372036854775808 ≤ x ∧ x ≤ 9223372036854775807
section
variable {H : Type} {enc : TypeId × Value → H} {P : Program} {W : World} {fuel : Nat} {t e : TypeId} {v : Value} {x : DataW H × List MemPlace}
theorem open_row {k : IntKind} (ht : P.underlying t = some (.slice e)) (he : P.underlying e = some (.int k)) (hc : P.cellsOf e = 1)
    (h : DataW.trod enc P W 0 (fun _ => true) true fuel t [v] = some x) (hsz : ∀ n ∈ x.1.weights P t, n ≤ reachBytes) :
    ∃ zs : List Int, Sl 0 W v zs.length (zs.map (Value.int k)) ∧ (∀ n ∈ zs, (Lit.int k n).wf = true) ∧ zs.length * P.bytesOf e ≤ reachBytes := by
  rcases open_ints ht he hc h with ⟨hcs, hx⟩ | ⟨a, len, cap, zs, hcs, _, hl, hm, hz, hx, hcell, hwz⟩
  · simp at hcs
    subst hcs
    exact ⟨[], Sl.nil _ _, by simp, by simp⟩
  · simp at hcs
    subst hcs
    have hz' : zs.length = cap := by simpa using hz
    have hlen : (zs.take len).length = len := by simp; omega
    refine ⟨zs.take len, ?_, fun n hn => hwz n (List.mem_of_mem_take hn), ?_⟩
    · refine ⟨some a, cap, by rw [hlen], by rw [hlen]; exact hl, hm, (by intro h; cases h), fun _ _ => Nat.zero_le _, fun j u hj => ⟨a, rfl, ?_⟩⟩
      rw [List.getElem?_map, List.getElem?_take] at hj
      split at hj
      · rename_i hjl
        have hjz : j < zs.length := by omega
        rw [hcell j hjz]
        simp [List.getElem?_eq_getElem hjz] at hj
        simp [← hj, List.getD, List.getElem?_eq_getElem hjz]
      · simp at hj
    · have := hsz ((lits (H := H) k (zs.take len)).length * P.bytesOf e + (lits (H := H) k (zs.drop len)).length * P.bytesOf e) (by rw [hx]; simp [DataW.weights, ht, Nat.add_mul])
      have h2 : (lits (H := H) k (zs.take len)).length = (zs.take len).length := by simp [lits]
      rw [h2] at this
      omega
theorem open_bytes (ht : P.underlying t = some (.slice e)) (he : P.underlying e = some (.int .u8)) (hc : P.cellsOf e = 1) (hb : P.bytesOf e = 1)
    (h : DataW.trod enc P W 0 (fun _ => true) true fuel t [v] = some x) (hsz : ∀ n ∈ x.1.weights P t, n ≤ reachBytes) :
    ∃ l : List UInt8, Bs 0 W v l ∧ l.length ≤ 140737488355328 := by
  obtain ⟨zs, h1, h2, h3⟩ := open_row ht he hc h hsz
  refine ⟨zs.map fun n => UInt8.ofNat n.toNat, ?_, ?_⟩
  · unfold Bs
    have : u8s (zs.map fun n => UInt8.ofNat n.toNat) = zs.map (Value.int .u8) := by
      simp only [u8s, List.map_map]
      apply List.map_congr_left
      intro n hn
      have hw := h2 n hn
      simp [Lit.wf, IntKind.min, IntKind.max, IntKind.signed, IntKind.bits] at hw
      simp
      omega
    rw [this, List.length_map]; exact h1
  · rw [List.length_map, ]
    rw [hb, Nat.mul_one] at h3
    have := reachBytes_lt
    omega
theorem open_is (ht : P.underlying t = some (.slice e)) (he : P.underlying e = some (.int .i64)) (hc : P.cellsOf e = 1) (hb : P.bytesOf e = 8)
    (h : DataW.trod enc P W 0 (fun _ => true) true fuel t [v] = some x) (hsz : ∀ n ∈ x.1.weights P t, n ≤ reachBytes) :
    ∃ l : List Int, Is 0 W v l ∧ I64s l ∧ l.length ≤ 140737488355328 := by
  obtain ⟨zs, h1, h2, h3⟩ := open_row ht he hc h hsz
  refine ⟨zs, h1, fun n hn => ?_, ?_⟩
  · have hw := h2 n hn
    simp [Lit.wf, IntKind.min, IntKind.max, IntKind.signed, IntKind.bits] at hw
    omega
  · rw [hb] at h3
    have := reachBytes_lt
    omega
end
theorem i64_bounds {a : Int} (h : (Lit.int .i64 a).wf = true) : -9223372036854775808 ≤ a ∧ a ≤ 9223372036854775807 := by
  simp [Lit.wf, IntKind.min, IntKind.max, IntKind.signed, IntKind.bits] at h
  omega
theorem weights_le {H : Type} {P : Program} {ts : List TypeId} {ds : List (DataW H)} (h : (DataW.weightsEach P ts ds).all (· ≤ reachBytes) = true) {j : Nat} {t : TypeId} {d : DataW H} (ht : ts[j]? = some t) (hd : ds[j]? = some d) : ∀ n ∈ d.weights P t, n ≤ reachBytes := fun n hn => by
  have := List.all_eq_true.1 h _ (DataW.weights_mem_each ht hd n hn)
  simpa using this
end Go.Proofs.Ytdcjhndcklofoaa
/- How a law is entered: what the arguments' readings say of a walk's values. -/
namespace Go.Proofs.Ytdcjhndcklofoaa
open Go.RowKit
set_option linter.unusedSimpArgs false
set_option linter.unusedVariables false
theorem Sl.den {W : World} {v : Value} {n : Nat} {xs : List Value} (h : Sl 0 W v n xs) (h1 : ∀ u ∈ xs, u.oneCell' = true) : Den (fun _ => False) W (.sq n (xs.map AV.x)) v := by
  obtain ⟨ad, cap, rfl, h1', h2, h3, h4⟩ := Sl.split h
  rw [Den]
  refine ⟨ad, cap, xs, rfl, h1', h2, h3, ?_, DenL.exact⟩
  rcases h4 with h4 | ⟨b, o, rfl, _, hc⟩
  · exact .inl h4
  · exact .inr ⟨b, o, rfl, fun h => h, fun j u hj => ⟨hc j u hj, h1 u (List.mem_of_getElem? hj)⟩⟩
theorem Is.den {W : World} {v : Value} {l : List Int} (h : Is 0 W v l) : Den (fun _ => False) W (.sq l.length (ia l)) v := by
  have := Sl.den h (fun u hu => by obtain ⟨n, -, rfl⟩ := List.mem_map.1 hu; rfl)
  have e : ia l = (l.map (Value.int .i64)).map AV.x := by simp [ia]
  rw [e]; exact this
theorem Bs.den {W : World} {v : Value} {l : List UInt8} (h : Bs 0 W v l) : Den (fun _ => False) W (.sq l.length (u8a l)) v :=
  Sl.den h (fun u hu => by obtain ⟨n, -, rfl⟩ := List.mem_map.1 hu; rfl)
end Go.Proofs.Ytdcjhndcklofoaa
