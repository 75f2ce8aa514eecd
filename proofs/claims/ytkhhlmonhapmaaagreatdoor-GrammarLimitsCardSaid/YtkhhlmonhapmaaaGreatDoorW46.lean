import Derived.Test.YtkhhlmonhapmaaaGreatDoorW45
import Derived.Test.YtkhhlmonhapmaaaGreatDoorW0
import Derived.ProofKit
import Derived.OpenShut
import Derived.ShutString
import Derived.ChangeOld
import Derived.Lib.SmallJoins
import Derived.SizedLaws
import Derived.Test.YtkhhlmonhapmaaaGreatDoorW44
import Derived.Test.YtkhhlmonhapmaaaGreatDoorW9
import Derived.Test.YtkhhlmonhapmaaaGreatDoorRows
import Derived.Test.YtkhhlmonhapmaaaGreatDoorW1
import Derived.Test.YtkhhlmonhapmaaaGreatDoorW22
import Derived.ChangeSame
import Derived.ChangeVars
import Derived.JoinedOf
import Derived.LaidLaws
import Derived.LaidHandle
import Derived.Stop.Joined
import Derived.RowKit
import Derived.Lay
/- GrammarItems: the walk. -/
namespace Go.Proofs.YtkhhlmonhapmaaaGreatDoor
open Go.RowKit
set_option linter.unusedSimpArgs false
set_option linter.unusedVariables false
def itT : List (List UInt8) := [[106, 111, 98, 32, 98, 32, 123], [125], [114, 117, 110, 32, 34, 120, 34], [101, 110, 118, 32, 65, 32, 61, 32, 34, 49, 34], [101, 110, 118, 32, 66, 32, 61, 32, 34, 50, 34], [110, 101, 101, 100, 115, 32, 97, 44, 32, 98], [110, 101, 101, 100, 115, 32, 97, 44, 32, 97], [114, 101, 97, 100, 121, 32, 47, 120, 47], [114, 101, 115, 116, 97, 114, 116, 32, 97, 108, 119, 97, 121, 115], [114, 101, 115, 116, 97, 114, 116, 32, 110, 101, 118, 101, 114], [114, 101, 115, 116, 97, 114, 116, 32, 111, 110, 45, 102, 97, 105, 108, 117, 114, 101], [114, 101, 115, 116, 97, 114, 116, 32, 120], [98, 97, 99, 107, 111, 102, 102, 32, 49, 32, 50, 32, 51], [98, 117, 114, 115, 116, 32, 48, 32, 53], [98, 117, 114, 115, 116, 32, 51, 32, 53], [98, 117, 114, 115, 116, 32, 49, 55, 32, 49], [115, 116, 111, 112, 32, 84, 69, 82, 77, 32, 53, 44, 32, 73, 78, 84, 32, 50], [115, 116, 111, 112, 32, 75, 73, 76, 76, 32, 49], [115, 116, 111, 112, 32, 72, 85, 80, 32, 49, 44], [106, 111, 98], [123], [61], [101, 110, 118, 32, 97, 32, 61], [120]]
theorem pick_it {v : Nat} (h : v < 24) : (List.drop v [.x (.string ⟨#[106, 111, 98, 32, 98, 32, 123]⟩), .x (.string ⟨#[125]⟩), .x (.string ⟨#[114, 117, 110, 32, 34, 120, 34]⟩), .x (.string ⟨#[101, 110, 118, 32, 65, 32, 61, 32, 34, 49, 34]⟩), .x (.string ⟨#[101, 110, 118, 32, 66, 32, 61, 32, 34, 50, 34]⟩), .x (.string ⟨#[110, 101, 101, 100, 115, 32, 97, 44, 32, 98]⟩), .x (.string ⟨#[110, 101, 101, 100, 115, 32, 97, 44, 32, 97]⟩), .x (.string ⟨#[114, 101, 97, 100, 121, 32, 47, 120, 47]⟩), .x (.string ⟨#[114, 101, 115, 116, 97, 114, 116, 32, 97, 108, 119, 97, 121, 115]⟩), .x (.string ⟨#[114, 101, 115, 116, 97, 114, 116, 32, 110, 101, 118, 101, 114]⟩), .x (.string ⟨#[114, 101, 115, 116, 97, 114, 116, 32, 111, 110, 45, 102, 97, 105, 108, 117, 114, 101]⟩), .x (.string ⟨#[114, 101, 115, 116, 97, 114, 116, 32, 120]⟩), .x (.string ⟨#[98, 97, 99, 107, 111, 102, 102, 32, 49, 32, 50, 32, 51]⟩), .x (.string ⟨#[98, 117, 114, 115, 116, 32, 48, 32, 53]⟩), .x (.string ⟨#[98, 117, 114, 115, 116, 32, 51, 32, 53]⟩), .x (.string ⟨#[98, 117, 114, 115, 116, 32, 49, 55, 32, 49]⟩), .x (.string ⟨#[115, 116, 111, 112, 32, 84, 69, 82, 77, 32, 53, 44, 32, 73, 78, 84, 32, 50]⟩), .x (.string ⟨#[115, 116, 111, 112, 32, 75, 73, 76, 76, 32, 49]⟩), .x (.string ⟨#[115, 116, 111, 112, 32, 72, 85, 80, 32, 49, 44]⟩), .x (.string ⟨#[106, 111, 98]⟩), .x (.string ⟨#[123]⟩), .x (.string ⟨#[61]⟩), .x (.string ⟨#[101, 110, 118, 32, 97, 32, 61]⟩), .x (.string ⟨#[120]⟩)]).getD 0 AV.top = .x (.string (bs (itT.getD v []))) := pick_sa itT v h
theorem itT_len (v : Nat) (h : v < 24) : (itT.getD v []).length ≤ 19 := allD itT (fun s => s.length ≤ 19) (by decide) v h
def pi1 : List UInt8 := [106, 111, 98, 32, 97, 32, 123, 32]
def pi2 : List UInt8 := [32, 114, 117, 110, 32, 34, 122, 34, 32, 125]
def itL (s : List UInt8) : List (List UInt8) := [s, pi1 ++ s, pi1 ++ s ++ pi2]
theorem itL_len (s : List UInt8) (h : s.length ≤ 5000) : ∀ x ∈ itL s, x.length ≤ 10000 := by
  intro x hx
  simp only [itL, List.mem_cons, List.not_mem_nil, or_false] at hx
  rcases hx with rfl | rfl | rfl <;> (try simp only [pi1, pi2, List.length_append, List.length_cons, List.length_nil]) <;> omega
set_option maxRecDepth 100000 in
set_option maxHeartbeats 8000000 in
theorem items_s (l : List Int) (hd : DK l) : Spec Tryz.prog 4 [] [.sq l.length (ia l)] (fun r H' => r = .x (.bool true) ∧ H' = []) := by
  have hlen := hd.len
  refine Spec_of Tryz.func4 rfl ?_
  simp only [Tryz.ntmps4, List.length_cons, List.length_nil, List.replicate_succ, List.replicate_zero, List.cons_append, List.nil_append, Nat.reduceAdd, Nat.reduceSub]
  (repeat' (first | with_reducible (first | refine awp_seq ?_ | refine awp_region ?_ | refine awp_block ?_ | refine awp_ret ?_ | refine awp_skip ?_ | refine awpL_nil ?_ | refine thenA_normal ?_ | refine thenA_ret ?_) | (refine awp_cond _ rfl (fun h => ?_) (fun h => ?_) <;> first | (exact absurd h (by decide)) | ((try (simp only [whn] at h)); skip)) | ((apply awpL_evl2 rfl); (case h => ((first | (apply Evl_k 0 rfl; (first | exact Evl_mv _ rfl | exact Evl_as _ rfl)) | (apply Evl_k 11 rfl; (first | exact Evl_call 10 Tryz.f10 _ _ rfl rfl Tryz.func10 (by decide) rfl (VwL.refl _ _) (sane06_s) | exact Evl_call 17 Tryz.f17 _ _ rfl rfl Tryz.func17 (by decide) rfl (VwL.refl _ _) (few_s l hlen))) | (apply Evl_x; (case hs => (intro _ _ h; cases h)); (case hx => rfl); (case hrun => (intro w; simp [wtb, AV.val, go_sem]; skip; rfl)))))); (case hT => ((try simp only [wtn]); rfl))) | (refine awpL_cons rfl ?_; (((refine Stp_k 11 rfl ?_; ((refine Stp_call 11 Tryz.f11 ([]) _ _ _ rfl rfl Tryz.func11 (by decide) rfl (List.Perm.refl _) (VwL.refl _ _) (new_w l []) ?_; rintro _ _ ⟨bd, rfl, rfl⟩)))); apply awpL_cong; (case hT => ((try simp only [wtn]); rfl)); (case hH => ((try simp only [wtn]); rfl)))) | fail))
  · refine endA_ret _ _ (Res1 rfl (RV.tmp _) (Weak.mk' [] _ (List.Perm.refl _) (VwHs.refl _ _) (VwL.refl _ _))) ?_
    exact ⟨rfl, rfl⟩
  apply awp_loopS (S := Nat × Nat × List UInt8) (fun q => frm 67 [(3, .x (.pointer (some ⟨bd, 0, none⟩))), (4, .x (.string (bs q.2.2))), (5, .x (.int .i64 q.1))]) (fun q => [.box bd [.sq l.length (ia l), .x (.int .i64 q.2.1)]]) (fun q => q.1 ≤ 40 ∧ q.2.1 ≤ l.length ∧ q.2.2.length ≤ 20 * q.1) (fun q => 40 - q.1) (0, 0, [])
  case h0 => exact (Weak.mk' [] _ (List.Perm.refl _) (VwHs.refl _ _) (by (repeat' (first | exact VwL.nil | (refine VwL.cons ?_ ?_) | exact Vw.refl _ | exact Vw.top _ | fail))))
  case hi => exact ⟨Nat.zero_le _, Nat.zero_le _, by simp⟩
  rintro ⟨i, kk, s⟩ ⟨g1, g2, g3⟩
  simp only at g1 g2 g3
  simp only [frm, List.replicate_succ, List.replicate_zero, List.foldl_cons, List.foldl_nil, List.set_cons_zero, List.set_cons_succ]
  (repeat' (first | with_reducible (first | refine awp_seq ?_ | refine awp_region ?_ | refine awp_block ?_ | refine awp_skip ?_ | refine awp_exit ?_ | refine awpL_nil ?_ | refine thenA_normal ?_ | refine thenA_exit ?_ | refine inBlockA_eq ?_ | refine inBlockA_normal ?_) | (refine awp_cond _ rfl (fun h => ?_) (fun h => ?_) <;> ((try (simp only [whn] at h)); skip)) | ((first | apply awpL_evl2 rfl | apply awpL_g2 _ _ rfl rfl rfl); (case h => ((try (intro (hp : (_ : Bool) = true); ((try simp only [hp]); (try simp only [whn] at hp)))); (first | (apply Evl_k 0 rfl; (first | exact Evl_mv _ rfl | exact Evl_as _ rfl)) | (apply Evl_k 1 rfl; (exact Evl_and _ _ _ _ _ rfl rfl rfl rfl)) | (apply Evl_k 3 rfl; (exact Evl_len _ _ _ _ _ _ HEl.out rfl rfl)) | (apply Evl_k 6 rfl; (exact Evl_load_at _ _ _ _ _ rfl rfl HAgg.out (by first | (simp [wlq]; omega) | fail) (by first | (simp [wlq]; omega) | fail))) | (apply Evl_k 7 rfl; (exact Evl_index_sq _ _ _ _ _ _ _ _ _ _ rfl rfl rfl HEl.out rfl (by first | omega | fail) (by simp; first | done | fail))) | (apply Evl_k 11 rfl; (exact Evl_callL 18 Tryz.f18 _ _ rfl rfl Tryz.func18 (by decide) rfl (by (repeat' (first | exact VwL.nil | (refine VwL.cons ?_ ?_) | exact Vw.box (List.Mem.head _) (VwL.refl _ _) | fail)); done) (left_at l kk hd.len))) | (apply Evl_k 12 rfl; (first | exact Evl_concat _ _ _ (itT.getD v []) rfl rfl rfl (by have := itT_len v hv; omega) | exact Evl_concat _ _ _ [32] rfl rfl rfl (by have := itT_len v hv; simp only [List.length_append, List.length_cons, List.length_nil]; omega) | exact Evl_concat _ _ pi1 _ rfl rfl rfl (by simp [pi1]; omega) | exact Evl_concat _ _ _ pi2 rfl rfl rfl (by simp [pi1, pi2]; omega))) | (apply Evl_k 17 rfl; (exact Evl_rowall _ _ _ _ _ _ rfl HElem.out rfl (by first | rfl | fail) rfl rfl (by decide))) | (apply Evl_x; (case hs => (intro _ _ h; cases h)); (case hx => rfl); (case hrun => (intro w; simp [wtb, AV.val, go_sem]; (try go_bits); rfl)))))); (case hT => ((try simp (disch := assumption) only [wtn, pick_it, List.append_eq, List.foldl_cons, List.foldl_nil, List.map_cons, List.map_nil, Nat.reduceAdd, Nat.reduceMul, Nat.reduceSub, ↓reduceIte, Nat.reduceEqDiff]); rfl))) | (refine awpL_cons rfl ?_; (((refine Stp_k 11 rfl ?_; ((refine Stp_call 19 Tryz.f19 [_] _ _ _ rfl rfl Tryz.func19 (by decide) rfl (List.Perm.refl _) (VwL.refl _ _) (next_w _ l kk 24 hd (by assumption) (by omega) (by omega)) ?_; rintro _ _ ⟨v, k', rfl, rfl, hv, hk'⟩)))); apply awpL_cong; (case hT => ((try simp (disch := omega) only [wtn, pick_it, List.append_eq, List.foldl_cons, List.foldl_nil, List.map_cons, List.map_nil, Nat.reduceAdd, Nat.reduceMul, Nat.reduceSub, ↓reduceIte, Nat.reduceEqDiff]); rfl)); (case hH => ((try simp (disch := omega) only [wtn, pick_it, List.append_eq, List.foldl_cons, List.foldl_nil, List.map_cons, List.map_nil, Nat.reduceAdd, Nat.reduceMul, Nat.reduceSub, ↓reduceIte, Nat.reduceEqDiff]); rfl)))) | fail))
  · have := itT_len v hv
    exact ⟨(i + 1, k', s ++ itT.getD v [] ++ [32]), by simp only; omega, ⟨by simp only; omega, hk', by simp only [List.length_append, List.length_cons, List.length_nil]; omega⟩, (Weak.mk' [] _ (List.Perm.refl _) (VwHs.refl _ _) (by (repeat' (first | exact VwL.nil | (refine VwL.cons ?_ ?_) | exact Vw.refl _ | exact Vw.top _ | fail))))⟩
  · have hL := Lib.hid (itL_len s (by omega))
    refine awp_loopS (S := Nat) (fun q => frm 67 [(41, .sq 3 (sa (itL s))), (42, .x (.int .i64 3)), (43, .x (.int .i64 q))]) (fun q => []) (fun q => q ≤ 3) (fun q => 3 - q) 0 ?a (Nat.zero_le _) fun q hq => ?_
    case a => exact (Weak.mk' [_] [] (List.Perm.refl _) (VwHs.refl _ _) (by (repeat' (first | exact VwL.nil | (refine VwL.cons ?_ ?_) | exact Vw.refl _ | exact Vw.top _ | fail))))
    simp only [frm, List.replicate_succ, List.replicate_zero, List.foldl_cons, List.foldl_nil, List.set_cons_zero, List.set_cons_succ]
    by_cases hk : q < (itL s).length
    · have hx := hL.out _ (List.getElem_mem hk)
      have h1 := gparse_t (itL s)[q] (by omega)
      have h2 := rparse_t (itL s)[q] (by omega)
      have h3 := same06_s _ (jbs_ok (itL s)[q])
      have h7 : q < 3 := hk
      have hdr := sa_drop (itL s) q hk
      generalize (itL s)[q] = x at *
      generalize gParse x = g at *
      have hln : (sa (itL s)).length = 3 := by simp [itL]
      (repeat' (first | with_reducible (first | refine awp_seq ?_ | refine awp_region ?_ | refine awp_block ?_ | refine awp_skip ?_ | refine awpL_nil ?_ | refine thenA_normal ?_ | refine inBlockA_normal ?_) | (refine awp_cond _ rfl (fun h => ?_) (fun h => ?_) <;> first | (exact absurd h (by decide)) | ((try (simp only [whn] at h)); first | (exfalso; omega; done) | skip)) | ((first | apply awpL_evl2 rfl | apply awpL_g2 _ _ rfl rfl rfl); (case h => ((try (intro (hp : (_ : Bool) = true); ((try simp only [Bool.not_eq_true'] at hp); skip; skip))); (first | (apply Evl_k 0 rfl; (first | exact Evl_mv _ rfl | exact Evl_as _ rfl)) | (apply Evl_k 1 rfl; (exact Evl_pickf _ _ _ rfl rfl)) | (apply Evl_k 2 rfl; (exact Evl_extract _ _ _ _ rfl rfl rfl)) | (apply Evl_k 6 rfl; (first | exact Evl_load_at _ _ _ _ _ rfl rfl HAgg.out (by first | exact Nat.le_of_ble_eq_true rfl | fail) (by first | exact Nat.le_of_ble_eq_true rfl | fail) | exact Evl_load _ _ _ _ _ _ _ _ rfl rfl FBox.out HAgg.out (by first | exact Nat.le_of_ble_eq_true rfl | fail) (by first | exact Nat.le_of_ble_eq_true rfl | fail))) | (apply Evl_k 7 rfl; (exact Evl_index_sq _ _ _ _ _ _ _ _ _ _ rfl rfl rfl HEl.out rfl (by first | omega | fail) (by simp; first | omega | fail))) | (apply Evl_k 11 rfl; (first | exact Evl_call 14 Tryz.f14 _ _ rfl rfl Tryz.func14 (by decide) rfl (VwL.refl _ _) (h1) | exact Evl_call 15 Tryz.f15 _ _ rfl rfl Tryz.func15 (by decide) rfl (VwL.refl _ _) (h2) | exact Evl_call 16 Tryz.f16 _ _ rfl rfl Tryz.func16 (by decide) rfl (VwL.refl _ _) (h3))) | (apply Evl_x; (case hs => (intro _ _ h; cases h)); (case hx => rfl); (case hrun => (intro w; simp [wtb, AV.val, go_sem]; (try go_bits); rfl)))))); (case hT => ((try simp (disch := omega) only [wtn, hdr, List.append_eq, List.foldl_cons, List.foldl_nil, List.map_cons, List.map_nil, Nat.reduceAdd, Nat.reduceMul, Nat.reduceSub, ↓reduceIte, Nat.reduceEqDiff]); rfl))) | (refine awpL_cons rfl ?_; ((first | (refine Stp_k 14 rfl ?_; ((refine Stp_alloc _ _ rfl HZero.out rfl (fun b => ?_)))) | (refine Stp_k 16 rfl ?_; ((refine Stp_store _ _ _ _ _ _ _ rfl rfl FBox.out HSize.out (by first | rfl | fail) (by first | exact Nat.le_of_ble_eq_true rfl | fail) ?_)))); apply awpL_cong; (case hT => ((try simp (disch := omega) only [wtn, hdr, List.append_eq, List.foldl_cons, List.foldl_nil, List.map_cons, List.map_nil, Nat.reduceAdd, Nat.reduceMul, Nat.reduceSub, ↓reduceIte, Nat.reduceEqDiff]); rfl)); (case hH => ((try simp (disch := omega) only [wtn, hdr, List.append_eq, List.foldl_cons, List.foldl_nil, List.map_cons, List.map_nil, Nat.reduceAdd, Nat.reduceMul, Nat.reduceSub, ↓reduceIte, Nat.reduceEqDiff]); rfl)))) | fail))
      refine ⟨q + 1, by omega, by omega, ?_⟩
      exact (Weak.mk' [_, _] [] (List.Perm.refl _) (VwHs.refl _ _) (by (repeat' (first | exact VwL.nil | (refine VwL.cons ?_ ?_) | exact Vw.refl _ | exact Vw.top _ | fail))))
    · have h7 : ¬ q < 3 := hk
      (repeat' (first | with_reducible (first | refine awp_seq ?_ | refine awp_region ?_ | refine awp_ret ?_ | refine awp_exit ?_ | refine awpL_nil ?_ | refine thenA_normal ?_ | refine thenA_exit ?_ | refine inBlockA_eq ?_) | (refine awp_cond _ rfl (fun h => ?_) (fun h => ?_) <;> ((try (simp only [whn] at h)); first | (exfalso; omega; done) | skip)) | ((apply awpL_evl2 rfl); (case h => ((first | (apply Evl_k 0 rfl; (exact Evl_as _ rfl)) | (apply Evl_x; (case hs => (intro _ _ h; cases h)); (case hx => rfl); (case hrun => (intro w; simp [wtb, AV.val, go_sem]; skip; rfl)))))); (case hT => ((try simp only [wtn]); rfl))) | fail))
      refine endA_ret _ _ (Res1 rfl (RV.tmp _) (Weak.mk' [] _ (List.Perm.refl _) (VwHs.refl _ _) (VwL.refl _ _))) ?_
      exact ⟨rfl, rfl⟩
end Go.Proofs.YtkhhlmonhapmaaaGreatDoor
/- How a law's arguments are opened: what the reading of a []byte, a []int or a struct gives the walk. No program in sight. -/
namespace Go.Proofs.YtkhhlmonhapmaaaGreatDoor
open Go.ChangeShapes Go.WideShapes Go.ChangeAt Go.RowKit Go.Joins
set_option linter.unusedSimpArgs false
set_option linter.unusedVariables false
def Is (lo : Nat) (w : World) (v : Value) (l : List Int) : Prop := Sl lo w v l.length (l.map (Value.int .i64))
theorem Is.mono {lo : Nat} {w w' : World} {v : Value} {l : List Int} (h : Is lo w v l) (hb : Ext w w') : Is lo w' v l := Sl.mono h hb
theorem Is.shape {lo : Nat} {w : World} {v : Value} {l : List Int} (h : Is lo w v l) : ∃ ad cap, v = .slice ad l.length cap ∧ l.length ≤ cap := Sl.shape h
def I64s (l : List Int) : Prop := ∀ x ∈ l, -9223372036854775808 ≤ x ∧ x ≤ 9223372036854775807
section
variable {H : Type} {enc : TypeId × Value → H} {P : Program} {W : World} {fuel : Nat} {t e : TypeId} {v : Value} {x : DataW H × List MemPlace}
theorem open_row {k : IntKind} (ht : P.underlying t = some (.slice e)) (he : P.underlying e = some (.int k)) (hc : P.cellsOf e = 1)
    (h : DataW.trod enc P W 0 (fun _ => true) true fuel t [v] = some x) (hsz : ∀ n ∈ x.1.weights P t, n ≤ reachBytes) :
    ∃ zs : List Int, Sl 0 W v zs.length (zs.map (Value.int k)) ∧ (∀ n ∈ zs, (Lit.int k n).wf = true) ∧ zs.length * P.bytesOf e ≤ reachBytes := by
  rcases open_ints ht he hc h with ⟨hcs, hx⟩ | ⟨a, len, cap, zs, hcs, _, hl, hm, hz, hx, hcell, hwz⟩
  · simp at hcs
    subst hcs
    exact ⟨[], Sl.nil _ _, by simp, by simp⟩
  · simp at hcs
    subst hcs
    have hz' : zs.length = cap := by simpa using hz
    have hlen : (zs.take len).length = len := by simp; omega
    refine ⟨zs.take len, ?_, fun n hn => hwz n (List.mem_of_mem_take hn), ?_⟩
    · refine ⟨some a, cap, by rw [hlen], by rw [hlen]; exact hl, hm, (by intro h; cases h), fun _ _ => Nat.zero_le _, fun j u hj => ⟨a, rfl, ?_⟩⟩
      rw [List.getElem?_map, List.getElem?_take] at hj
      split at hj
      · rename_i hjl
        have hjz : j < zs.length := by omega
        rw [hcell j hjz]
        simp [List.getElem?_eq_getElem hjz] at hj
        simp [← hj, List.getD, List.getElem?_eq_getElem hjz]
      · simp at hj
    · have := hsz ((lits (H := H) k (zs.take len)).length * P.bytesOf e + (lits (H := H) k (zs.drop len)).length * P.bytesOf e) (by rw [hx]; simp [DataW.weights, ht, Nat.add_mul])
      have h2 : (lits (H := H) k (zs.take len)).length = (zs.take len).length := by simp [lits]
      rw [h2] at this
      omega
theorem open_is (ht : P.underlying t = some (.slice e)) (he : P.underlying e = some (.int .i64)) (hc : P.cellsOf e = 1) (hb : P.bytesOf e = 8)
    (h : DataW.trod enc P W 0 (fun _ => true) true fuel t [v] = some x) (hsz : ∀ n ∈ x.1.weights P t, n ≤ reachBytes) :
    ∃ l : List Int, Is 0 W v l ∧ I64s l ∧ l.length ≤ 140737488355328 := by
  obtain ⟨zs, h1, h2, h3⟩ := open_row ht he hc h hsz
  refine ⟨zs, h1, fun n hn => ?_, ?_⟩
  · have hw := h2 n hn
    simp [Lit.wf, IntKind.min, IntKind.max, IntKind.signed, IntKind.bits] at hw
    omega
  · rw [hb] at h3
    have := reachBytes_lt
    omega
end
theorem i64_bounds {a : Int} (h : (Lit.int .i64 a).wf = true) : -9223372036854775808 ≤ a ∧ a ≤ 9223372036854775807 := by
  simp [Lit.wf, IntKind.min, IntKind.max, IntKind.signed, IntKind.bits] at h
  omega
theorem weights_le {H : Type} {P : Program} {ts : List TypeId} {ds : List (DataW H)} (h : (DataW.weightsEach P ts ds).all (· ≤ reachBytes) = true) {j : Nat} {t : TypeId} {d : DataW H} (ht : ts[j]? = some t) (hd : ds[j]? = some d) : ∀ n ∈ d.weights P t, n ≤ reachBytes := fun n hn => by
  have := List.all_eq_true.1 h _ (DataW.weights_mem_each ht hd n hn)
  simpa using this
end Go.Proofs.YtkhhlmonhapmaaaGreatDoor
/- How a law is entered: what the arguments' readings say of a walk's values. -/
namespace Go.Proofs.YtkhhlmonhapmaaaGreatDoor
open Go.RowKit
set_option linter.unusedSimpArgs false
set_option linter.unusedVariables false
theorem Sl.den {W : World} {v : Value} {n : Nat} {xs : List Value} (h : Sl 0 W v n xs) (h1 : ∀ u ∈ xs, u.oneCell' = true) : Den (fun _ => False) W (.sq n (xs.map AV.x)) v := by
  obtain ⟨ad, cap, rfl, h1', h2, h3, h4⟩ := Sl.split h
  rw [Den]
  refine ⟨ad, cap, xs, rfl, h1', h2, h3, ?_, DenL.exact⟩
  rcases h4 with h4 | ⟨b, o, rfl, _, hc⟩
  · exact .inl h4
  · exact .inr ⟨b, o, rfl, fun h => h, fun j u hj => ⟨hc j u hj, h1 u (List.mem_of_getElem? hj)⟩⟩
theorem Is.den {W : World} {v : Value} {l : List Int} (h : Is 0 W v l) : Den (fun _ => False) W (.sq l.length (ia l)) v := by
  have := Sl.den h (fun u hu => by obtain ⟨n, -, rfl⟩ := List.mem_map.1 hu; rfl)
  have e : ia l = (l.map (Value.int .i64)).map AV.x := by simp [ia]
  rw [e]; exact this
theorem Bs.den {W : World} {v : Value} {l : List UInt8} (h : Bs 0 W v l) : Den (fun _ => False) W (.sq l.length (u8a l)) v :=
  Sl.den h (fun u hu => by obtain ⟨n, -, rfl⟩ := List.mem_map.1 hu; rfl)
end Go.Proofs.YtkhhlmonhapmaaaGreatDoor
/- What the listed variable gives a walk: from the row's condition to its cell; a world that meets it. After the kit's worked example of errors.As. -/
namespace Go.Proofs.YtkhhlmonhapmaaaGreatDoor
open Go.RowKit Go
set_option linter.unusedSimpArgs false
set_option linter.unusedVariables false
theorem laid_et : Tryz.prog.globalNamed "errors.errorType" = some 0 := by kernel_rfl
theorem laid_rt : (Tryz.prog.cutTypes.find? (·.1 == "internal/reflectlite.rtype")).map (·.2) = some 158 := by kernel_rfl
theorem laid_size : Tryz.prog.types.size = 251 := by kernel_rfl
theorem laid_row : ((List.range 251).filter fun t => Tryz.prog.rowNamed t [101, 114, 114, 111, 114]) = [82] := by kernel_rfl
theorem gw_of_laid {W : World} (h : laidMetH Tryz.prog [("errors.errorType", Rows.laid_errors_errorType)] W) : Gw W := by
  have h' : laidMet Tryz.prog [] W ∧ handlesMet Tryz.prog [("errors.errorType", Rows.laid_errors_errorType)] W := h
  obtain ⟨name, u, ty, e1, e2, e3, e4, e5⟩ := h'.2 _ (List.mem_singleton.2 rfl)
  have en : name = [101, 114, 114, 111, 114] := (Option.some.inj e1).symm
  subst en
  obtain rfl := Option.some.inj (laid_rt.symm.trans e2)
  have hm : ty ∈ (List.range 251).filter fun t => Tryz.prog.rowNamed t [101, 114, 114, 111, 114] := List.mem_filter.2 ⟨List.mem_range.2 (by rw [← laid_size]; exact e3), e4⟩
  rw [laid_row] at hm
  obtain rfl := List.mem_singleton.1 hm
  have hh : typeHandle Tryz.prog 82 = .pointer (some ⟨9, 82, none⟩) := by kernel_rfl
  rw [hh] at e5
  unfold Gw
  simpa using World.var?_cell laid_et e5 0
noncomputable def laidWorld (os : Os) : World :=
  let w0 := World.holding Tryz.prog os ⟨#[], #[], []⟩
  { w0 with heap := w0.heap.modify 0 fun
      | .cells _ t frozen => .cells #[.iface 158 (.agg #[.pointer (some ⟨9, 82, none⟩)])] t frozen
      | o => o }
end Go.Proofs.YtkhhlmonhapmaaaGreatDoor
/- What several listed variables give a walk; a world in which they lie. -/
namespace Go.Proofs.YtkhhlmonhapmaaaGreatDoor
open Go.RowKit Go
set_option linter.unusedSimpArgs false
set_option linter.unusedVariables false
theorem gw_of_list {L : List (String × DataW Unit)} (hf : (L.filter fun x => x.2.handleName?.isSome) = [("errors.errorType", Rows.laid_errors_errorType)]) {W : World} (h : laidMetH Tryz.prog L W) : Gw W := by
  unfold laidMetH at h
  rw [hf] at h
  have h2 : handlesMet Tryz.prog [("errors.errorType", Rows.laid_errors_errorType)] W := h.2
  exact gw_of_laid (show laidMetH Tryz.prog [("errors.errorType", Rows.laid_errors_errorType)] W from ⟨laidMet_nil _ _, h2⟩)
noncomputable def laidWorldL (os : Os) (L : List (String × DataW Unit)) : World := (laidWorld os).layVars Tryz.prog (L.filter fun x => x.2.handleName?.isNone)
theorem laidWorldL_os (os : Os) (L : List (String × DataW Unit)) : (laidWorldL os L).os = os := (World.layVars_os _ _ _).trans rfl
theorem laidWorldL_met {os : Os} {L : List (String × DataW Unit)} (args : Array Value) (hf : (laidWorld os).layFits Tryz.prog (L.filter fun x => x.2.handleName?.isNone) [] = true) (hi : (laidWorld os).layIfaces Tryz.prog (L.filter fun x => x.2.handleName?.isNone) (laidWorldL os L) = true)
    (hh : (L.filter fun x => x.2.handleName?.isSome).all (handleAtB Tryz.prog (laidWorldL os L)) = true) : laidMetH Tryz.prog L ((laidWorldL os L).forCall (fun _ _ => 0) ⟨#[], args, []⟩).memory := by
  have h : laidMetH Tryz.prog L (laidWorldL os L) := by
    refine laidMetH_of_parts ?_ hh
    generalize hL : (L.filter fun x => x.2.handleName?.isNone) = L' at *
    have e1 : (L'.filter fun x => (L'.map (·.1)).contains x.1) = L' := List.filter_eq_self.2 fun x hx => List.contains_iff_mem.2 (List.mem_map.2 ⟨x, hx, rfl⟩)
    have e2 : (L'.filter fun x => !(L'.map (·.1)).contains x.1) = [] := List.filter_eq_nil_iff.2 fun x hx => by rw [List.contains_iff_mem.2 (List.mem_map.2 ⟨x, hx, rfl⟩)]; simp
    exact laidMet_layVars (w0 := laidWorld os) (L'.map (·.1)) [] (by rw [e1]; unfold laidWorldL; rw [hL]) (by rw [e1]; exact hf) (by rw [e1]; exact hi) (by rw [e2]; exact LaidIn.none)
  exact h.of_heap (by simp [World.memory, World.forCall, Input.heap])
end Go.Proofs.YtkhhlmonhapmaaaGreatDoor
