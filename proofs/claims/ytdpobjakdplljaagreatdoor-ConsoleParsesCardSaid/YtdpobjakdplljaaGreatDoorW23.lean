import Derived.Test.YtdpobjakdplljaaGreatDoorW19
import Derived.Test.YtdpobjakdplljaaGreatDoorW22
/- The reference's printer: a job's lines, exactly. -/
set_option linter.unusedSimpArgs false
set_option linter.unusedVariables false
namespace Go.Proofs.YtdpobjakdplljaaGreatDoor
open Go.RowKit
theorem Xhr (l : List (List UInt8)) (i : Nat) (h : i < l.length) : XfG (l.take (i + 1)) = XfG (l.take i) ++ if i = 0 then [32, 32, 110, 101, 101, 100, 115, 32] ++ l[i] else [44, 32] ++ l[i] := by
 rw [Xa4 l i h]
 cases i with
 | zero => simp [XfG]
 | succ i =>
  rw [if_neg (by omega)]
  cases l with
  | nil => simp at h
  | cons x r => simp only [List.take_succ_cons, Xva, XfG, List.flatMap_append, List.flatMap_cons, List.flatMap_nil, List.append_nil, Xd3, List.getElem_cons_succ, List.append_assoc]
theorem Xjw (l : List (Int × Int)) (i : Nat) (h : i < l.length) : Xjq (l.take (i + 1)) = Xjq (l.take i) ++ if i = 0 then Xcs l[i] else [44] ++ Xcs l[i] := by
 rw [Xa4 l i h]
 cases i with
 | zero => simp [Xjq]
 | succ i =>
  rw [if_neg (by omega)]
  cases l with
  | nil => simp at h
  | cons x r => simp only [List.take_succ_cons, Xva, Xjq, List.flatMap_append, List.flatMap_cons, List.flatMap_nil, List.append_nil, Xde, List.getElem_cons_succ, List.append_assoc, Xu9]
theorem Xog (l : List (List UInt8)) : XdQ l = if 0 < l.length then XfG l ++ [10] else [] := by
 unfold XdQ
 cases l with
 | nil => rfl
 | cons x r => rw [if_neg (by simp), if_pos (by simp)]
set_option maxRecDepth 100000 in
set_option maxHeartbeats 8000000 in
theorem Xsk (j : JF) (hj : XfB j) : Xa8 Tryz.prog 186 [] [.agg j.cells] (fun r H' => r = .x (.string (bs (XeO j))) ∧ H' = [] ∧ (XeO j).length ≤ 900) := by
 obtain ⟨j1, j2, j3, j4, j5, j6, j7, j8, j9, j10, j11, j12, j13, j14⟩ := hj
 have j4' := Lib.hid j4
 have j6' := Lib.hid j6
 have j9' := Lib.hid j9
 clear j4 j6 j9
 have q1 := XcH j.run
 have q2 := Xfj j.ready
 have q3 := XeH j.restart
 have q4 := XdT j.base j10.2
 have q5 := XdT j.cap j11.2
 have q6 := XdT j.stable j12.2
 have q7 := XdT j.window j13.2
 have qb : U64 (if 0 < j.burst then j.burst else 0) := by unfold U64; have := j14.1; have := j14.2; split <;> omega
 have q8 := XdT _ qb.2
 unfold JF.cells
 refine XaG Tryz.func186 rfl ?_
 simp only [Tryz.ntmps186, Xu2, Xu5, Xu6, Xu7, Xva, Xu9, Nat.reduceAdd, Nat.reduceSub]
 (repeat' (first | with_reducible (first | refine Xah ?_ | refine Xac ?_ | refine Xan ?_ | refine Xae ?_ | refine Xb3 ?_ | refine Xaa ?_) | (with_reducible refine Xbc Xbd ?_ ?_; (decide +kernel)) | ((first | apply Xad rfl | apply XbH rfl); (case h => ((first | (apply Xab 0 rfl; (exact Xao _ rfl)) | (apply Xab 5 rfl; (exact Xal _ _ _ _ _ _ rfl rfl Xa6.out)) | (apply Xab 6 rfl; (exact XaA _ _ _ _ _ _ _ _ rfl rfl XaZ.out XaO.out (by first | exact XuY rfl | fail) (by first | exact XuY rfl | fail))) | (apply Xab 11 rfl; (exact Xaz 69 Tryz.f69 _ _ rfl rfl Tryz.func69 (by decide) rfl (VwL.refl _ _) (Xkd j.run (by omega)))) | (apply Xab 12 rfl; (exact Xbq _ _ _ _ rfl rfl rfl (by simp; omega)))))); (case hT => ((try simp only [wtn]); rfl))) | (refine Xaj rfl ?_; (((refine Xaq 15 rfl ?_; ((refine Xbt _ _ rfl (by first | rfl | fail) (fun b => ?_))))); apply Xak; (case hT => ((try simp only [wtn]); rfl)); (case hH => ((try simp only [wtn]); rfl)))) | fail))
 apply XaT (S := Nat × List UInt8) (fun q => frm 143 [(1, .x (.pointer (some ⟨b, 0, none⟩))), (3, .x (.string (bs q.2))), (4, .x (.int .i64 q.1))]) (fun _ => [.box b [.x (.string (bs j.name)), .x (.string (bs j.run)), .sq j.env.length (ea j.env), .sq j.needs.length (sa j.needs), .x (.bool j.hasr), .x (.string (bs j.ready)), .x (.int .i64 j.restart), .x (.int .u64 j.base), .x (.int .u64 j.cap), .x (.int .u64 j.stable), .x (.int .i64 j.burst), .x (.int .u64 j.window), .sq j.ladder.length (ra j.ladder), .x (.int .i64 j.line), .x (.int .i64 j.col)]]) (fun q => q.1 ≤ j.env.length ∧ q.2.length ≤ 100 + 60 * q.1 ∧ q.2 = XgM j ++ Xl5 (j.env.take q.1)) (fun q => j.env.length - q.1) (0, _)
 case h0 => exact (XaK.mk' [] _ (XuZ _) (XaE.refl _ _) (by (repeat' (first | exact VwL.nil | (refine VwL.cons ?_ ?_) | exact Vw.refl _ | exact Vw.top _ | fail))))
 case hi => exact ⟨Nat.zero_le _, by simp; omega, by simp [XgM, Xl5]⟩
 rintro ⟨i, s⟩ ⟨hi, hs, he⟩
 simp only at hi hs he
 have he' := Lib.hid he
 clear he
 simp only [frm, Xu6, Xu7, Xu0, Xu1, Xvd, Xve]
 by_cases hlt : i < j.env.length
 ·have hp := j4'.out j.env[i] (List.getElem_mem hlt)
  have hp2 := XcH j.env[i].2
  (repeat' (first | with_reducible (first | refine Xah ?_ | refine Xac ?_ | refine Xan ?_ | refine Xax ?_ | refine Xae ?_ | refine Xb3 ?_ | refine Xaa ?_ | refine Xag ?_) | (with_reducible refine Xbc Xbd ?_ ?_; (decide +kernel)) | (refine Xai _ rfl (fun h => ?_) (fun h => ?_) <;> ((try (simp only [whn] at h)); first | (exfalso; omega; done) | skip)) | ((first | apply Xad rfl | apply XbH rfl); (case h => ((first | (apply Xab 0 rfl; (first | exact Xar _ rfl | exact Xao _ rfl)) | (apply Xab 3 rfl; (exact XaX _ _ _ _ _ _ HEl.out rfl rfl)) | (apply Xab 5 rfl; (first | exact Xal _ _ _ _ _ _ rfl rfl Xa6.out | exact Xbe _ _ _ _ _ rfl rfl Xa6.out)) | (apply Xab 6 rfl; (first | exact XaD _ _ _ _ _ rfl rfl XaO.out (by first | exact XuY rfl | fail) (by first | exact XuY rfl | fail) | exact XaA _ _ _ _ _ _ _ _ rfl rfl XaZ.out XaO.out (by first | exact XuY rfl | fail) (by first | exact XuY rfl | fail))) | (apply Xab 7 rfl; (exact XaC _ _ _ _ _ _ _ _ _ _ rfl rfl rfl HEl.out rfl (by first | omega | fail) (by simp; first | omega | fail))) | (apply Xab 11 rfl; (exact Xaz 69 Tryz.f69 _ _ rfl rfl Tryz.func69 (by decide) rfl (VwL.refl _ _) (Xkd _ (by omega)))) | (apply Xab 12 rfl; (exact Xbq _ _ _ _ rfl rfl rfl (by simp; omega))) | (apply XaF; (case hs => (intro _ _ h; cases h)); (case hx => rfl); (case hrun => (intro w; simp [wtb, AV.val, go_sem]; (try go_bits); rfl)))))); (case hT => ((try simp (disch := assumption) only [wtn, Xgi, Xu3, Xu0, Xu1, Xu4, Xu8, Nat.reduceAdd, Nat.reduceMul, Nat.reduceSub, ↓reduceIte, Nat.reduceEqDiff]); rfl))) | fail))
  exact ⟨(i + 1, s ++ [32, 32, 101, 110, 118, 32] ++ j.env[i].1 ++ [32, 61, 32] ++ Xc8 j.env[i].2 ++ [10]), by simp only; omega, ⟨by simp only; omega, by simp; omega, by simp only; rw [he'.out, Xa4 _ i hlt]; simp only [Xl5, List.flatMap_append, List.flatMap_cons, List.flatMap_nil, List.append_nil, Xn0, List.append_assoc, Xva, Xu9]⟩, (XaK.mk' [] _ (XuZ _) (XaE.refl _ _) (by (repeat' (first | exact VwL.nil | (refine VwL.cons ?_ ?_) | exact Vw.refl _ | exact Vw.top _ | fail))))⟩
 ·(repeat' (first | with_reducible (first | refine Xah ?_ | refine Xac ?_ | refine Xan ?_ | refine XaW ?_ | refine Xae ?_ | refine Xaa ?_ | refine XaM ?_ | refine XaI ?_) | (refine Xai _ rfl (fun h => ?_) (fun h => ?_) <;> ((try (simp only [whn] at h)); first | (exfalso; omega; done) | skip)) | ((apply Xad rfl); (case h => ((first | (apply Xab 0 rfl; (first | exact Xar _ rfl | exact Xao _ rfl)) | (apply Xab 3 rfl; (exact XaX _ _ _ _ _ _ HEl.out rfl rfl)) | (apply Xab 5 rfl; (exact Xal _ _ _ _ _ _ rfl rfl Xa6.out)) | (apply Xab 6 rfl; (exact XaA _ _ _ _ _ _ _ _ rfl rfl XaZ.out XaO.out (by first | exact XuY rfl | fail) (by first | exact XuY rfl | fail))) | (apply XaF; (case hs => (intro _ _ h; cases h)); (case hx => rfl); (case hrun => (intro w; simp [wtb, AV.val, go_sem]; skip; rfl)))))); (case hT => ((try simp only [wtn]); rfl))) | fail))
  apply XaT (S := Nat × List UInt8) (fun q => frm 143 [(1, .x (.pointer (some ⟨b, 0, none⟩))), (3, .x (.string (bs q.2))), (5, .x (.int .i64 q.1))]) (fun _ => [.box b [.x (.string (bs j.name)), .x (.string (bs j.run)), .sq j.env.length (ea j.env), .sq j.needs.length (sa j.needs), .x (.bool j.hasr), .x (.string (bs j.ready)), .x (.int .i64 j.restart), .x (.int .u64 j.base), .x (.int .u64 j.cap), .x (.int .u64 j.stable), .x (.int .i64 j.burst), .x (.int .u64 j.window), .sq j.ladder.length (ra j.ladder), .x (.int .i64 j.line), .x (.int .i64 j.col)]]) (fun q => q.1 ≤ j.needs.length ∧ q.2.length ≤ 220 + 20 * q.1 ∧ q.2 = XgM j ++ Xl5 j.env ++ XfG (j.needs.take q.1)) (fun q => j.needs.length - q.1) (0, _)
  case h0 => exact (XaK.mk' [] _ (XuZ _) (XaE.refl _ _) (by (repeat' (first | exact VwL.nil | (refine VwL.cons ?_ ?_) | exact Vw.refl _ | exact Vw.top _ | fail))))
  case hi => exact ⟨Nat.zero_le _, by simp only; omega, by simp only; rw [he'.out, List.take_of_length_le (by omega)]; simp [XfG]⟩
  clear hi hs he'
  rintro ⟨i, s⟩ ⟨hi, hs, he⟩
  simp only at hi hs he
  have he' := Lib.hid he
  clear he
  simp only [frm, Xu6, Xu7, Xu0, Xu1, Xvd, Xve]
  by_cases hlt2 : i < j.needs.length
  ·have hp := j6'.out j.needs[i] (List.getElem_mem hlt2)
   (repeat' (first | with_reducible (first | refine Xah ?_ | refine Xac ?_ | refine Xan ?_ | refine Xax ?_ | refine Xae ?_ | refine Xaa ?_ | refine Xag ?_) | (refine Xai _ rfl (fun h => ?_) (fun h => ?_) <;> ((try (simp only [whn] at h)); first | (exfalso; omega; done) | skip)) | ((apply Xad rfl); (case h => ((first | (apply Xab 0 rfl; (first | exact Xar _ rfl | exact Xao _ rfl)) | (apply Xab 3 rfl; (exact XaX _ _ _ _ _ _ HEl.out rfl rfl)) | (apply Xab 5 rfl; (exact Xal _ _ _ _ _ _ rfl rfl Xa6.out)) | (apply Xab 6 rfl; (first | exact XaD _ _ _ _ _ rfl rfl XaO.out (by first | exact XuY rfl | fail) (by first | exact XuY rfl | fail) | exact XaA _ _ _ _ _ _ _ _ rfl rfl XaZ.out XaO.out (by first | exact XuY rfl | fail) (by first | exact XuY rfl | fail))) | (apply Xab 7 rfl; (exact XaC _ _ _ _ _ _ _ _ _ _ rfl rfl rfl HEl.out rfl (by first | omega | fail) (by simp; first | omega | fail))) | (apply Xab 12 rfl; (exact Xbq _ _ _ _ rfl rfl rfl (by simp; omega))) | (apply XaF; (case hs => (intro _ _ h; cases h)); (case hx => rfl); (case hrun => (intro w; simp [wtb, AV.val, go_sem]; (try go_bits); rfl)))))); (case hT => ((try simp (disch := assumption) only [wtn, Xds, Xu3, Xu0, Xu1, Xu4, Xu8, Nat.reduceAdd, Nat.reduceMul, Nat.reduceSub, ↓reduceIte, Nat.reduceEqDiff]); rfl))) | fail))
   ·exact ⟨(i + 1, s ++ [32, 32, 110, 101, 101, 100, 115, 32] ++ j.needs[i]), by simp only; omega, ⟨by simp only; omega, by simp; omega, by simp only; rw [he'.out, Xhr j.needs i hlt2]; (first | rw [if_pos (by omega)] | fail); simp only [List.append_assoc]⟩, (XaK.mk' [] _ (XuZ _) (XaE.refl _ _) (by (repeat' (first | exact VwL.nil | (refine VwL.cons ?_ ?_) | exact Vw.refl _ | exact Vw.top _ | fail))))⟩
   ·exact ⟨(i + 1, s ++ [44, 32] ++ j.needs[i]), by simp only; omega, ⟨by simp only; omega, by simp; omega, by simp only; rw [he'.out, Xhr j.needs i hlt2]; (first | rw [if_neg (by omega)] | fail); simp only [List.append_assoc]⟩, (XaK.mk' [] _ (XuZ _) (XaE.refl _ _) (by (repeat' (first | exact VwL.nil | (refine VwL.cons ?_ ?_) | exact Vw.refl _ | exact Vw.top _ | fail))))⟩
  ·(repeat' (first | with_reducible (first | refine Xah ?_ | refine Xac ?_ | refine Xan ?_ | refine Xax ?_ | refine XaW ?_ | refine Xae ?_ | refine Xb3 ?_ | refine Xaa ?_ | refine XaM ?_ | refine XaI ?_) | (with_reducible refine Xbc Xbd ?_ ?_; (decide +kernel)) | (refine Xai _ rfl (fun h => ?_) (fun h => ?_) <;> ((try (simp only [whn] at h)); first | (exfalso; omega; done) | skip)) | ((first | apply Xad rfl | apply XbH rfl); (case h => ((first | (apply Xab 0 rfl; (first | exact Xar _ rfl | exact Xao _ rfl)) | (apply Xab 3 rfl; (exact XaX _ _ _ _ _ _ HEl.out rfl rfl)) | (apply Xab 5 rfl; (exact Xal _ _ _ _ _ _ rfl rfl Xa6.out)) | (apply Xab 6 rfl; (exact XaA _ _ _ _ _ _ _ _ rfl rfl XaZ.out XaO.out (by first | exact XuY rfl | fail) (by first | exact XuY rfl | fail))) | (apply Xab 11 rfl; (first | exact Xaz 197 Tryz.f197 _ _ rfl rfl Tryz.func197 (by decide) rfl (VwL.refl _ _) (Xko j.ready (by omega)) | exact Xaz 198 Tryz.f198 _ _ rfl rfl Tryz.func198 (by decide) rfl (VwL.refl _ _) (XpI _) | exact Xaz 199 Tryz.f199 _ _ rfl rfl Tryz.func199 (by decide) rfl (VwL.refl _ _) (Xi6 _ (by first | exact j10.1 | exact j11.1 | exact j12.1 | exact j13.1 | exact qb.1 | fail) (by first | exact j10.2 | exact j11.2 | exact j12.2 | exact j13.2 | exact qb.2 | fail)))) | (apply Xab 12 rfl; (exact Xbq _ _ _ _ rfl rfl rfl (by simp; omega))) | (apply XaF; (case hs => (intro _ _ h; cases h)); (case hx => rfl); (case hrun => (intro w; simp [wtb, AV.val, go_sem]; (try go_bits); rfl)))))); (case hT => ((try simp only [wtn]); rfl))) | fail))
   all_goals
    apply XaT (S := Nat × List UInt8) (fun q => frm 143 [(1, .x (.pointer (some ⟨b, 0, none⟩))), (3, .x (.string (bs q.2))), (6, .x (.int .i64 q.1))]) (fun _ => [.box b [.x (.string (bs j.name)), .x (.string (bs j.run)), .sq j.env.length (ea j.env), .sq j.needs.length (sa j.needs), .x (.bool j.hasr), .x (.string (bs j.ready)), .x (.int .i64 j.restart), .x (.int .u64 j.base), .x (.int .u64 j.cap), .x (.int .u64 j.stable), .x (.int .i64 j.burst), .x (.int .u64 j.window), .sq j.ladder.length (ra j.ladder), .x (.int .i64 j.line), .x (.int .i64 j.col)]]) (fun q => q.1 ≤ j.ladder.length ∧ q.2.length ≤ 660 + 40 * q.1 ∧ q.2 = XgM j ++ Xl5 j.env ++ XdQ j.needs ++ Xd6 j ++ Xid j ++ Xjq (j.ladder.take q.1)) (fun q => j.ladder.length - q.1) (0, _)
    case h0 => exact (XaK.mk' [] _ (XuZ _) (XaE.refl _ _) (by (repeat' (first | exact VwL.nil | (refine VwL.cons ?_ ?_) | exact Vw.refl _ | exact Vw.top _ | fail))))
    case hi =>
     refine ⟨Nat.zero_le _, by simp; omega, ?_⟩
     have hz := he'.out
     rw [List.take_of_length_le (by omega)] at hz
     simp only
     rw [hz, Xog, List.take_zero]
     first
      | rw [if_pos (show 0 < j.needs.length by omega)]
      | rw [if_neg (show ¬ 0 < j.needs.length by omega), show XfG j.needs = [] by rw [List.length_eq_zero_iff.1 (show j.needs.length = 0 by omega)]; rfl]
     first
      | (have hr : j.hasr = true := by assumption
         simp only [Xd6, hr, if_true])
      | (have hr : j.hasr = false := by first | assumption | fail
         simp only [Xd6, hr, Bool.false_eq_true, if_false])
     simp only [Xid, Xjq, List.append_nil, List.append_assoc, Xva, Xu9]
    clear hi hs he'
    rintro ⟨i, s⟩ ⟨hi, hs, he⟩
    simp only at hi hs he
    have he' := Lib.hid he
    clear he
    simp only [frm, Xu6, Xu7, Xu0, Xu1, Xvd, Xve]
    by_cases hlt3 : i < j.ladder.length
    ·have hp := j9'.out j.ladder[i] (List.getElem_mem hlt3)
     have hp2 := XhJ j.ladder[i].1
     have hp3 := XdT j.ladder[i].2 hp.2
     (repeat' (first | with_reducible (first | refine Xah ?_ | refine Xac ?_ | refine Xan ?_ | refine Xax ?_ | refine Xae ?_ | refine Xb3 ?_ | refine Xaa ?_ | refine Xag ?_) | (with_reducible refine Xbc Xbd ?_ ?_; (decide +kernel)) | (refine Xai _ rfl (fun h => ?_) (fun h => ?_) <;> ((try (simp only [whn] at h)); first | (exfalso; omega; done) | skip)) | ((first | apply Xad rfl | apply XbH rfl); (case h => ((first | (apply Xab 0 rfl; (first | exact Xar _ rfl | exact Xao _ rfl)) | (apply Xab 3 rfl; (exact XaX _ _ _ _ _ _ HEl.out rfl rfl)) | (apply Xab 5 rfl; (first | exact Xal _ _ _ _ _ _ rfl rfl Xa6.out | exact Xbe _ _ _ _ _ rfl rfl Xa6.out)) | (apply Xab 6 rfl; (first | exact XaD _ _ _ _ _ rfl rfl XaO.out (by first | exact XuY rfl | fail) (by first | exact XuY rfl | fail) | exact XaA _ _ _ _ _ _ _ _ rfl rfl XaZ.out XaO.out (by first | exact XuY rfl | fail) (by first | exact XuY rfl | fail))) | (apply Xab 7 rfl; (exact XaC _ _ _ _ _ _ _ _ _ _ rfl rfl rfl HEl.out rfl (by first | omega | fail) (by simp; first | omega | fail))) | (apply Xab 11 rfl; (first | exact Xaz 200 Tryz.f200 _ _ rfl rfl Tryz.func200 (by decide) rfl (VwL.refl _ _) (Xno _) | exact Xaz 199 Tryz.f199 _ _ rfl rfl Tryz.func199 (by decide) rfl (VwL.refl _ _) (Xi6 _ hp.1 hp.2))) | (apply Xab 12 rfl; (exact Xbq _ _ _ _ rfl rfl rfl (by simp; omega))) | (apply XaF; (case hs => (intro _ _ h; cases h)); (case hx => rfl); (case hrun => (intro w; simp [wtb, AV.val, go_sem]; (try go_bits); rfl)))))); (case hT => ((try simp (disch := assumption) only [wtn, XnZ, Xu3, Xu0, Xu1, Xu4, Xu8, Nat.reduceAdd, Nat.reduceMul, Nat.reduceSub, ↓reduceIte, Nat.reduceEqDiff]); rfl))) | fail))
     ·exact ⟨(i + 1, s ++ [44] ++ [32] ++ Xg2 j.ladder[i].1 ++ [32] ++ XbT j.ladder[i].2.toNat), by simp only; omega, ⟨by simp only; omega, by simp; omega, by simp only; rw [he'.out, Xjw j.ladder i hlt3]; (first | rw [if_neg (by omega)] | fail); simp only [Xcs, List.append_assoc]⟩, (XaK.mk' [] _ (XuZ _) (XaE.refl _ _) (by (repeat' (first | exact VwL.nil | (refine VwL.cons ?_ ?_) | exact Vw.refl _ | exact Vw.top _ | fail))))⟩
     ·exact ⟨(i + 1, s ++ [32] ++ Xg2 j.ladder[i].1 ++ [32] ++ XbT j.ladder[i].2.toNat), by simp only; omega, ⟨by simp only; omega, by simp; omega, by simp only; rw [he'.out, Xjw j.ladder i hlt3]; (first | rw [if_pos (by omega)] | fail); simp only [Xcs, List.append_assoc]⟩, (XaK.mk' [] _ (XuZ _) (XaE.refl _ _) (by (repeat' (first | exact VwL.nil | (refine VwL.cons ?_ ?_) | exact Vw.refl _ | exact Vw.top _ | fail))))⟩
    ·(repeat' (first | with_reducible (first | refine Xah ?_ | refine Xac ?_ | refine Xat ?_ | refine XaW ?_ | refine Xae ?_ | refine Xaa ?_ | refine XaM ?_ | refine XaI ?_) | (refine Xai _ rfl (fun h => ?_) (fun h => ?_) <;> ((try (simp only [whn] at h)); first | (exfalso; omega; done) | skip)) | ((apply Xad rfl); (case h => ((first | (apply Xab 0 rfl; (first | exact Xar _ rfl | exact Xao _ rfl)) | (apply Xab 3 rfl; (exact XaX _ _ _ _ _ _ HEl.out rfl rfl)) | (apply Xab 5 rfl; (exact Xal _ _ _ _ _ _ rfl rfl Xa6.out)) | (apply Xab 6 rfl; (exact XaA _ _ _ _ _ _ _ _ rfl rfl XaZ.out XaO.out (by first | exact XuY rfl | fail) (by first | exact XuY rfl | fail))) | (apply Xab 12 rfl; (exact Xbq _ _ _ _ rfl rfl rfl (by simp; omega))) | (apply XaF; (case hs => (intro _ _ h; cases h)); (case hx => rfl); (case hrun => (intro w; simp [wtb, AV.val, go_sem]; skip; rfl)))))); (case hT => ((try simp only [wtn]); rfl))) | fail))
     refine Xaf _ _ (Xbl rfl (RV.tmp _) (XaK.mk' [_] [] (XuZ _) (XaE.refl _ _) (by first | exact VwL.refl _ _ | fail))) ?_
     have e : s ++ [10, 125, 10] = XeO j := by rw [he'.out, List.take_of_length_le (by omega)]; rfl
     exact ⟨by rw [← e]; rfl, rfl, by rw [← e]; simp; omega⟩
theorem Xf2 : ∀ s ∈ Xcp, Xcy s ∧ s.length ≤ 32 := by
 intro s hs
 simp only [Xcp, List.mem_cons, List.not_mem_nil, or_false] at hs
 rcases hs with rfl | rfl | rfl | rfl <;> exact ⟨XbI (by decide), by decide⟩
theorem XiF : Xcp.Nodup := by decide
theorem XsW : ∀ s ∈ XmN, XhO s ∧ s.length ≤ 128 := by
 intro s hs
 simp only [XmN, List.mem_cons, List.not_mem_nil, or_false] at hs
 rcases hs with rfl | rfl | rfl | rfl | rfl | rfl | rfl <;> refine ⟨?_, by decide⟩ <;> simp [XhO]
theorem JM.good {j : JF} (h : JM j) : Xg0 j := by
 obtain ⟨i, hi, h⟩ := h
 obtain ⟨hS, h1, h2, ⟨v, hv, h3⟩, h4, h5, h6, h7, h8, h9, h10, h11, h12, h13⟩ := h
 have hsub : ∀ s ∈ j.needs, s ∈ Xcp := fun s hs => List.mem_of_mem_take (h4.subset hs)
 refine ⟨?_, ?_, ?_, ?_, ?_, ?_, ?_, ?_, ?_, h6, ⟨h7.1, by omega⟩, ⟨h8.1, by omega⟩, ⟨h9.1, by omega⟩, ⟨h11.1, by omega⟩, ⟨h10.1, by omega⟩, ⟨h12.1, by omega⟩, ?_⟩
 ·rw [h1]; exact Xf2 _ (XeR Xcp [] i hi)
 ·have := hS.run; omega
 ·have := hS.env; omega
 ·intro p hp
  rw [h3] at hp
  have := List.mem_of_mem_take hp
  simp only [Xow, List.mem_cons, List.not_mem_nil, or_false] at this
  rcases this with rfl | rfl <;> exact ⟨XbI (by decide), by decide, by decide⟩
 ·rw [h3, List.map_take]
  exact (show (Xow.map (·.1)).Nodup by decide).sublist (List.take_sublist _ _)
 ·have := hS.needs; omega
 ·exact fun s hs => Xf2 s (hsub s hs)
 ·exact (XiF.sublist (List.take_sublist _ _)).sublist h4
 ·rcases h5 with ⟨a, b⟩ | ⟨a, b⟩
  ·exact .inl ⟨a, XsW _ b⟩
  ·exact .inr ⟨a, b⟩
 ·intro p hp
  obtain ⟨a, b, c⟩ := h13 p hp
  simp only [Xs5, List.mem_cons, List.not_mem_nil, or_false] at a
  exact ⟨by omega, b, by omega⟩
def brc (l : List UInt8) : Nat := l.count 123
theorem Xkm (a b : List UInt8) : brc (a ++ b) = brc a + brc b := List.count_append
theorem JM.toks {j : JF} (h : JM j) : (XgT j).length ≤ 60 := by
 obtain ⟨i, hi, h⟩ := h
 have h1 := h.small.env
 have h2 := h.small.needs
 have h3 := h.ladder.2
 have a1 : (Xmi j.env).length = 4 * j.env.length := by
  unfold Xmi
  induction j.env with
  | nil => rfl
  | cons p l ih => simp only [List.flatMap_cons, Xvb, ih, Xu2]; simp [Xo8]; omega
 have a2 : (XeI j.needs).length ≤ 2 * j.needs.length := by
  cases j.needs with
  | nil => simp [XeI]
  | cons x r => simp only [XeI, Xu2, Xhi]; omega
 have a3 : (Xdw j).length ≤ 2 := by unfold Xdw; split <;> simp
 have a4 : (XmJ j.ladder).length ≤ 3 * j.ladder.length := by
  cases j.ladder with
  | nil => simp [XmJ]
  | cons x r => simp only [XmJ, Xi7, Xu2, Xvb, Xu5, Xhw]; omega
 simp only [XgT, Xjh, Xju, Xvb, Xu2, Xu5]; omega
theorem Xiu : ∀ l : List JF, (∀ j ∈ l, JM j) → (l.flatMap XgT).length ≤ 60 * l.length
 | [], _ => Nat.le_refl _
 | j :: l, h => by
  have := Xiu l fun x hx => h x (by simp [hx])
  have := (h j (by simp)).toks
  rw [List.flatMap_cons, Xvb, Xu2]; omega
end Go.Proofs.YtdpobjakdplljaaGreatDoor
