import Derived.Test.YtdpobjakdplljaaGreatDoorW17
import Derived.Test.YtdpobjakdplljaaGreatDoorW31
import Derived.Test.YtdpobjakdplljaaGreatDoorW33
import Derived.Test.YtdpobjakdplljaaGreatDoorW13
import Derived.Shelf.Strings.Builder1
import Derived.Shelf.Small.Strs
import Derived.Shelf.Pu.ParseUintPublic10
import Derived.Shelf.Slices.Turned
import Derived.Shelf.Slices.Equal
/- The mill: a new Xkz, whether numbers are left, whether a list is short. -/
set_option linter.unusedSimpArgs false
set_option linter.unusedVariables false
namespace Go.Proofs.YtdpobjakdplljaaGreatDoor
open Go.RowKit
set_option maxRecDepth 100000 in
set_option maxHeartbeats 8000000 in
theorem XtB (l : List Int) (H : List Hp) : Xa8 Tryz.prog 19 H [.sq l.length (ia l)] (fun r H' => ∃ b, r = .x (.pointer (some ⟨b, 0, none⟩)) ∧ H' = .box b [.sq l.length (ia l), .x (.int .i64 0)] :: H) := by
 refine XaG Tryz.func19 rfl ?_
 simp only [Tryz.ntmps19, Xu2, Xu5, Xu6, Xu7, Xva, Xu9, Nat.reduceAdd, Nat.reduceSub]
 (repeat' (first | with_reducible (first | refine Xah ?_ | refine Xac ?_ | refine Xan ?_ | refine Xat ?_ | refine Xax ?_ | refine XaW ?_ | refine Xae ?_ | refine Xb3 ?_ | refine Xaa ?_ | refine XaM ?_ | refine Xaw ?_ | refine XaI ?_ | refine Xag ?_ | refine Xav ?_ | refine Xdi ?_ | refine Xee ?_ | refine XeU ?_ | refine Xeq ?_ | refine XfW ?_ | refine Xei ?_ | refine Xc1 ?_) | (with_reducible refine Xbc Xbd ?_ ?_; (decide +kernel)) | (with_reducible refine XdI ?_ ?_; (decide)) | (refine Xai _ rfl (fun h => ?_) (fun h => ?_) <;> first | (exact absurd h (by decide)) | (skip; first | (exfalso; omega; done) | skip)) | ((first | apply Xdn rfl rfl rfl | apply Xpu rfl rfl rfl); (case hT => rfl)) | ((first | apply Xad rfl | apply XbH rfl | apply Xa7 _ _ rfl rfl rfl | apply XmC _ _ rfl rfl rfl); (case h => ((first | (apply Xab 0 rfl; (first | exact Xar _ rfl | exact Xao _ rfl)) | (apply Xab 1 rfl; (first | exact XbE _ _ _ rfl rfl | exact XbG _ _ _ rfl rfl | exact Xbn _ _ _ _ _ rfl rfl rfl rfl | exact Xcz _ _ _ _ _ rfl rfl rfl rfl | exact XcK _ _ _ _ _ rfl rfl rfl rfl | exact XcI _ _ _ _ _ rfl rfl rfl rfl)) | (apply Xab 2 rfl; (first | exact XaL _ _ _ _ rfl rfl rfl)) | (apply Xab 3 rfl; (first | exact XaX _ _ _ _ _ _ HEl.out rfl rfl)) | (apply Xab 4 rfl; (first | exact Xbf _ rfl (by first | exact .inl ⟨_, rfl⟩ | exact .inr ⟨_, rfl⟩))) | (apply Xab 5 rfl; (first | exact Xal _ _ _ _ _ _ rfl rfl Xa6.out | exact Xbe _ _ _ _ _ rfl rfl Xa6.out)) | (apply Xab 6 rfl; (first | exact XaD _ _ _ _ _ rfl rfl XaO.out (by first | exact XuY rfl | (simp [wlq]; first | done | omega)) (by first | exact XuY rfl | (simp [wlq]; first | done | omega)) | exact XaA _ _ _ _ _ _ _ _ rfl rfl XaZ.out XaO.out (by first | exact XuY rfl | (simp [wlq]; first | done | omega)) (by first | exact XuY rfl | (simp [wlq]; first | done | omega)) | exact XbR _ _ _ _ _ _ _ _ _ _ _ _ rfl rfl XbD.out XaO.out (by first | exact XuY rfl | (simp [wlq]; first | done | omega)) (by first | exact XuY rfl | (simp [wlq]; first | done | omega)))) | (apply Xab 7 rfl; (first | exact XaC _ _ _ _ _ _ _ _ _ _ rfl rfl rfl HEl.out rfl (by first | omega | assumption) (by simp; first | done | omega) | exact Xbw _ _ _ _ _ _ _ _ _ _ _ _ rfl rfl rfl HEl.out rfl (by first | omega | assumption))) | (apply Xab 8 rfl; (first | exact XaS _ _ _ _ _ _ _ rfl rfl rfl (by kernel_rfl) rfl (by omega))) | (apply Xab 9 rfl; (first | exact Xa0 _ _ _ _ _ _ _ rfl rfl (by kernel_rfl) (by first | exact .inl ⟨rfl, rfl⟩ | exact .inr ⟨_, _, rfl, rfl⟩) (by first | exact .inl ⟨rfl, rfl⟩ | exact .inr ⟨_, _, rfl, rfl⟩) (by omega) (by omega) | exact Xba _ _ _ _ _ _ _ _ _ _ rfl rfl HEl.out (by first | exact .inl ⟨rfl, rfl⟩ | exact .inr ⟨_, _, rfl, rfl⟩) (by first | exact .inl ⟨rfl, rfl⟩ | exact .inr ⟨_, _, rfl, rfl⟩) (by omega) (by omega) | exact Xbu _ _ _ _ _ _ _ _ _ _ _ _ rfl rfl HEl.out (by first | exact .inl ⟨rfl, rfl⟩ | exact .inr ⟨_, _, rfl, rfl⟩) (by first | exact .inl ⟨rfl, rfl⟩ | exact .inr ⟨_, _, rfl, rfl⟩) (by omega) (by omega))) | (apply Xab 10 rfl; (first | exact XaU _ _ _ _ _ rfl HPl.out (by first | rfl | (simp; done)) rfl)) | (apply XaF; (case hs => (intro _ _ h; cases h)); (case hx => rfl); (case hrun => (intro w; simp [wtb, AV.val, go_sem]; skip; rfl)))))); (case hT => ((try simp only [wtn, ↓reduceIte]); rfl))) | (refine Xaj rfl ?_; ((first | (refine Xaq 13 rfl ?_; (first | (refine XaH _ _ _ _ _ _ _ _ _ _ _ _ _ _ rfl rfl XbD.out (Src.row _ rfl XbD.out) XaQ.out (by first | rfl | (simp; first | done | omega)) (XcD _ _ (by omega) (by decide)) (fun ad cap => ?_)) | (refine XaH _ _ _ _ _ _ _ _ _ _ _ _ _ _ rfl rfl XbD.out (Src.sq rfl) XaQ.out (by first | rfl | (simp; first | done | omega)) (XcD _ _ (by omega) (by decide)) (fun ad cap => ?_)))) | (refine Xaq 14 rfl ?_; (first | (refine XaN _ _ rfl Xbp.out rfl (fun b => ?_)))) | (refine Xaq 15 rfl ?_; (first | (refine Xbt _ _ rfl (by first | rfl | (skip; simp [won, Value.oneCell']; done)) (fun b => ?_)))) | (refine Xaq 16 rfl ?_; (first | (refine Xau _ _ _ _ _ _ _ rfl rfl XaZ.out XaR.out (by first | rfl | (skip; simp [won, Value.oneCell']; done)) (by first | exact XuY rfl | (simp [wlq]; first | done | omega)) ?_) | (refine Xb9 _ _ _ _ _ _ _ _ _ _ _ rfl rfl XbD.out XaR.out (by first | rfl | (skip; simp [won, Value.oneCell']; done)) (by first | exact XuY rfl | (simp [wlq]; first | done | omega)) ?_))) | (refine Xaq 17 rfl ?_; (first | (refine XaB _ _ _ _ _ _ _ _ rfl XaQ.out (by first | rfl | (skip; simp [won, Value.oneCell']; done)) rfl (by decide) rfl (fun b => ?_))))); apply Xak; (case hT => ((try simp only [wtn]); rfl)); (case hH => ((try simp only [wtn]); rfl))))))
 refine Xaf _ _ (Xbl rfl (RV.tmp _) (XaK.mk' [] _ (XuZ _) (XaE.refl _ _) (VwL.refl _ _))) ?_
 exact ⟨_, rfl, rfl⟩
theorem SK.fld {m k : Nat} {e : EF} (h : SK m k e) : e.job.length ≤ 1 ∧ (-1 ≤ e.code ∧ e.code ≤ 1) ∧ e.data.length ≤ m ∧ (0 ≤ e.time ∧ e.time ≤ 18446744073709551615) ∧ (0 ≤ e.client ∧ e.client ≤ 3) ∧ (-5 ≤ e.num ∧ e.num ≤ 294) := by
 refine ⟨?_, ?_, ?_, ?_, ?_, ?_⟩
 ·have := h.job; split at this
  ·exact Nat.le_of_eq this.2
  ·rw [this]; simp
 ·have := h.code; split at this <;> omega
 ·have := h.data; split at this
  ·exact this
  ·rw [this]; simp
 ·have := h.time; split at this <;> omega
 ·have := h.client; split at this <;> omega
 ·have := h.num; split at this <;> omega
theorem SE.fld {m : Nat} {e : EF} (h : SE m e) : e.job.length ≤ 1 ∧ (-1 ≤ e.code ∧ e.code ≤ 1) ∧ e.data.length ≤ m ∧ (0 ≤ e.time ∧ e.time ≤ 18446744073709551615) ∧ (0 ≤ e.client ∧ e.client ≤ 3) ∧ (-5 ≤ e.num ∧ e.num ≤ 294) := by
 obtain ⟨k, -, h⟩ := h
 exact h.fld
theorem Xoh {n : Int} (h1 : -999 ≤ n) (h2 : n ≤ 999) : 0 ≤ m0 n ∧ m0 n ≤ 999 := by unfold m0; split <;> omega
structure MEs (l : List EF) : Prop where
 len : l.length ≤ 28
 good : ∀ e ∈ l, XfH e ∧ (Xeb e).length ≤ 8192
 ok : ∀ e ∈ l, EOk e
 text : (XcZ l).length ≤ 65536
theorem SE.ok {e : EF} (h : SE 1111 e) : EOk (clE e) := by
 obtain ⟨h1, h2, h3, h4, h5, h6⟩ := h.fld
 have q1 := Xoh (n := e.code) (by omega) (by omega)
 have q2 := Xoh (n := e.client) (by omega) (by omega)
 have q3 := Xoh (n := e.num) (by omega) (by omega)
 refine ⟨by simp only [clE]; omega, ?_, by simp only [clE]; omega, by simp only [clE]; split <;> omega, by simp only [clE]; omega, by simp only [clE]; omega⟩
 simp only [clE]
 split
 ·simp
 ·omega
theorem MEs.of {out : List EF} (h1 : out.length ≤ 28) (h2 : ∀ e ∈ out, SE 1111 e) (h3 : sw out ≤ 64400) : MEs (out.map clE) where
 len := by simpa using h1
 good := fun e he => by
  obtain ⟨d, hd, rfl⟩ := List.mem_map.1 he
  have q1 := (h2 d hd).good
  have q2 := (h2 d hd).fld.2.2.1
  exact ⟨q1.1, by omega⟩
 ok := fun e he => by
  obtain ⟨d, hd, rfl⟩ := List.mem_map.1 he
  exact (h2 d hd).ok
 text := by
  have := Xnt out fun e he => ⟨1111, h2 e he⟩
  omega
set_option maxRecDepth 100000 in
set_option maxHeartbeats 8000000 in
theorem XqL (l : List Int) (hd : DK l) : Xa8 Tryz.prog 13 [] [.sq l.length (ia l)] (fun r H' => ∃ out : List EF, r = .sq (out.map clE).length (va (out.map clE)) ∧ H' = [] ∧ out.length ≤ 28 ∧ (∀ e ∈ out, SE 1111 e) ∧ sw out ≤ 64400) := by
 refine XaG Tryz.func13 rfl ?_
 simp only [Tryz.ntmps13, Xu2, Xu5, Xu6, Xu7, Xva, Xu9, Nat.reduceAdd, Nat.reduceSub]
 refine XbA 41 8 ?_
 (repeat' (first | with_reducible (first | refine Xah ?_ | refine Xac ?_ | refine Xan ?_ | refine Xae ?_ | refine Xaa ?_) | ((apply Xad rfl); (case h => ((first | (apply Xab 0 rfl; (first | exact Xar _ rfl | exact Xao _ rfl)) | (apply Xab 3 rfl; (exact XaX _ _ _ _ _ _ HEl.out rfl rfl))))); (case hT => ((try simp only [wtn]); rfl))) | (refine Xaj rfl ?_; (((refine Xaq 11 rfl ?_; (first | (refine Xam 19 Tryz.f19 ([]) _ _ _ rfl rfl Tryz.func19 (by decide) rfl (XuZ _) (VwL.refl _ _) (XtB l []) ?_; rintro _ _ ⟨bd, rfl, rfl⟩) | (refine Xam 30 Tryz.f30 [_] _ _ _ rfl rfl Tryz.func30 (by decide) rfl (XuZ _) (VwL.refl _ _) (XrU _ l 0 14 hd (Nat.zero_le _) (by omega)) ?_; rintro _ _ ⟨src, k1, rfl, rfl, hk1, hs1, hs2, hs3⟩)))); apply Xak; (case hT => ((try simp only [wtn]); rfl)); (case hH => ((try simp only [wtn]); rfl)))) | fail))
 have hme := Lib.hid (And.intro hs1 (And.intro hs2 hs3))
 clear hs2 hs3
 apply XaT (S := Nat × Option Addr × Nat) (fun q => frm 41 [(3, .x (.slice q.2.1 q.1 q.2.2)), (8, .sq src.length (va src)), (9, .x (.int .i64 src.length)), (10, .x (.int .i64 q.1))]) (fun q => [.row q.2.1 q.1 q.2.2 41 8 (va ((src.take q.1).map clE))]) (fun q => q.1 ≤ src.length) (fun q => src.length - q.1) (0, none, 0)
 case h0 => exact XaK.mk' [.box bd _] [.row _ _ _ _ _ _] (by (repeat' (first | exact XuZ _ | fail))) (XaE.refl _ _) (by (repeat' (first | exact VwL.nil | (refine VwL.cons ?_ ?_) | exact Vw.refl _ | exact Vw.top _ | fail)))
 case hi => exact Nat.zero_le _
 rintro ⟨i, ad0, cap0⟩ hi
 simp only at hi
 simp only [frm, Xu6, Xu7, Xu0, Xu1, Xvd, Xve]
 by_cases hlt : i < src.length
 ·have hdr := XfQ src i hlt
  have hst : (src.take (i + 1)).map clE = (src.take i).map clE ++ [clE src[i]] := by rw [Xa4 src i hlt, List.map_append]; rfl
  have hst' := Lib.hid hst
  clear hst
  have hln : ((src.take i).map clE).length = i := by simp; omega
  (repeat' (first | with_reducible (first | refine Xah ?_ | refine Xac ?_ | refine Xan ?_ | refine Xax ?_ | refine Xae ?_ | refine Xaa ?_ | refine Xag ?_) | (refine Xai _ rfl (fun h => ?_) (fun h => ?_) <;> ((try (simp only [whn] at h)); first | (exfalso; omega; done) | skip)) | ((apply Xad rfl); (case h => ((first | (apply Xab 0 rfl; (first | exact Xar _ rfl | exact Xao _ rfl)) | (apply Xab 5 rfl; (exact Xal _ _ _ _ _ _ rfl rfl Xa6.out)) | (apply Xab 6 rfl; (first | exact XaD _ _ _ _ _ rfl rfl XaO.out (by first | exact XuY rfl | fail) (by first | exact XuY rfl | fail) | exact XaA _ _ _ _ _ _ _ _ rfl rfl XaZ.out XaO.out (by first | exact XuY rfl | fail) (by first | exact XuY rfl | fail))) | (apply Xab 7 rfl; (exact XaC _ _ _ _ _ _ _ _ _ _ rfl rfl rfl HEl.out rfl (by first | omega | fail) (by simp; first | omega | fail))) | (apply XaF; (case hs => (intro _ _ h; cases h)); (case hx => rfl); (case hrun => (intro w; simp [wtb, AV.val, go_sem]; (try go_bits); rfl)))))); (case hT => ((try simp (disch := omega) only [wtn, hdr, Xu3, Xu0, Xu1, Xu4, Xu8, Nat.reduceAdd, Nat.reduceMul, Nat.reduceSub, ↓reduceIte, Nat.reduceEqDiff]); rfl))) | (refine Xaj rfl ?_; ((first | (refine Xaq 13 rfl ?_; ((refine XaH _ _ _ _ _ _ _ _ _ _ _ _ _ _ rfl rfl XbD.out (Src.row _ rfl XbD.out) XaQ.out (by first | rfl | fail) (XcD _ _ (by omega) (by decide)) (fun ad cap => ?_)))) | (refine Xaq 14 rfl ?_; ((refine XaN _ _ rfl Xbp.out rfl (fun b => ?_)))) | (refine Xaq 16 rfl ?_; ((refine Xau _ _ _ _ _ _ _ rfl rfl XaZ.out XaR.out (by first | rfl | fail) (by first | exact XuY rfl | fail) ?_))) | (refine Xaq 17 rfl ?_; ((refine XaB _ _ _ _ _ _ _ _ rfl XaQ.out (by first | rfl | fail) rfl (by decide) rfl (fun b => ?_))))); apply Xak; (case hT => ((try simp (disch := omega) only [wtn, hdr, Xu3, Xu0, Xu1, Xu4, Xu8, Nat.reduceAdd, Nat.reduceMul, Nat.reduceSub, ↓reduceIte, Nat.reduceEqDiff]); rfl)); (case hH => ((try simp (disch := omega) only [wtn, hdr, Xu3, Xu0, Xu1, Xu4, Xu8, Nat.reduceAdd, Nat.reduceMul, Nat.reduceSub, ↓reduceIte, Nat.reduceEqDiff]); rfl)))) | fail))
  ·have hcl : clE src[i] = ⟨src[i].kind, src[i].job, src[i].ok, m0 src[i].code, [], 7, m0 src[i].client, m0 src[i].num⟩ := by unfold clE; rw [if_pos (by assumption), if_pos (by assumption)]
   refine ⟨(i + 1, ad, cap), by simp only; omega, by simp only; omega, ?_⟩
   rw [hst'.out, XhM, hcl]
   simp only [EF.cells, show ∀ n : Int, m0 n = max 0 n from fun n => by unfold m0; omega]
   exact XaK.mk' [_, _] [.row ad _ cap _ _ _] (XuZ _) (XaE.cons (VwH.row _ _ _ _ _ (VwL.appE (VwL.refl _ _) (by (repeat' (first | exact VwL.nil | (refine VwL.cons ?_ ?_) | exact Vw.refl _ | exact Vw.nil | fail))))) XaE.nil) (by (repeat' (first | exact VwL.nil | (refine VwL.cons ?_ ?_) | exact Vw.refl _ | exact Vw.top _ | fail)))
  ·have hcl : clE src[i] = ⟨src[i].kind, src[i].job, src[i].ok, m0 src[i].code, src[i].data, 7, m0 src[i].client, m0 src[i].num⟩ := by unfold clE; rw [if_neg (by assumption), if_pos (by assumption)]
   refine ⟨(i + 1, ad, cap), by simp only; omega, by simp only; omega, ?_⟩
   rw [hst'.out, XhM, hcl]
   simp only [EF.cells, show ∀ n : Int, m0 n = max 0 n from fun n => by unfold m0; omega]
   exact XaK.mk' [_, _] [.row ad _ cap _ _ _] (XuZ _) (XaE.cons (VwH.row _ _ _ _ _ (VwL.appE (VwL.refl _ _) (by (repeat' (first | exact VwL.nil | (refine VwL.cons ?_ ?_) | exact Vw.refl _ | fail))))) XaE.nil) (by (repeat' (first | exact VwL.nil | (refine VwL.cons ?_ ?_) | exact Vw.refl _ | exact Vw.top _ | fail)))
  ·have hcl : clE src[i] = ⟨src[i].kind, src[i].job, src[i].ok, m0 src[i].code, [], src[i].time, m0 src[i].client, m0 src[i].num⟩ := by unfold clE; rw [if_pos (by assumption), if_neg (by assumption)]
   refine ⟨(i + 1, ad, cap), by simp only; omega, by simp only; omega, ?_⟩
   rw [hst'.out, XhM, hcl]
   simp only [EF.cells, show ∀ n : Int, m0 n = max 0 n from fun n => by unfold m0; omega]
   exact XaK.mk' [_, _] [.row ad _ cap _ _ _] (XuZ _) (XaE.cons (VwH.row _ _ _ _ _ (VwL.appE (VwL.refl _ _) (by (repeat' (first | exact VwL.nil | (refine VwL.cons ?_ ?_) | exact Vw.refl _ | exact Vw.nil | fail))))) XaE.nil) (by (repeat' (first | exact VwL.nil | (refine VwL.cons ?_ ?_) | exact Vw.refl _ | exact Vw.top _ | fail)))
  ·have hcl : clE src[i] = ⟨src[i].kind, src[i].job, src[i].ok, m0 src[i].code, src[i].data, src[i].time, m0 src[i].client, m0 src[i].num⟩ := by unfold clE; rw [if_neg (by assumption), if_neg (by assumption)]
   refine ⟨(i + 1, ad, cap), by simp only; omega, by simp only; omega, ?_⟩
   rw [hst'.out, XhM, hcl]
   simp only [EF.cells, show ∀ n : Int, m0 n = max 0 n from fun n => by unfold m0; omega]
   exact XaK.mk' [_, _] [.row ad _ cap _ _ _] (XuZ _) (XaE.cons (VwH.row _ _ _ _ _ (VwL.appE (VwL.refl _ _) (by (repeat' (first | exact VwL.nil | (refine VwL.cons ?_ ?_) | exact Vw.refl _ | fail))))) XaE.nil) (by (repeat' (first | exact VwL.nil | (refine VwL.cons ?_ ?_) | exact Vw.refl _ | exact Vw.top _ | fail)))
 ·obtain rfl : i = src.length := by omega
  (repeat' (first | with_reducible (first | refine Xah ?_ | refine Xac ?_ | refine Xat ?_ | refine XaW ?_ | refine Xae ?_ | refine Xaa ?_ | refine XaM ?_ | refine XaI ?_) | (refine Xai _ rfl (fun h => ?_) (fun h => ?_) <;> first | (exact absurd h (by decide)) | ((try (simp only [] at h)); skip)) | ((apply Xad rfl); (case h => ((first | (apply Xab 0 rfl; (first | exact Xar _ rfl | exact Xao _ rfl)) | (apply XaF; (case hs => (intro _ _ h; cases h)); (case hx => rfl); (case hrun => (intro w; simp [wtb, AV.val, go_sem]; skip; rfl)))))); (case hT => ((try simp only [wtn]); rfl))) | fail))
  rw [List.take_length]
  refine Xaf _ _ (Xbl rfl (RV.tmp _) (XaK.mk' [.row _ _ _ _ _ _] [] (XuZ _) XaE.nil (VwL.cons (Vw.row (List.Mem.head _) (VwL.refl _ _)) VwL.nil))) ⟨src, by simp, rfl, hme.out⟩
theorem XpM (out : List EF) (h1 : out.length ≤ 28) (h2 : ∀ e ∈ out, SE 1111 e) : (XcZ (out.map clE)).length ≤ 300000000 := by
 have := Xjo (out.map clE) fun e he => by
  obtain ⟨d, hd, rfl⟩ := List.mem_map.1 he
  exact (h2 d hd).ok
 rw [List.length_map] at this
 have h3 : out.length * 8200200 ≤ 28 * 8200200 := Nat.mul_le_mul_right _ h1
 omega
theorem XlW (l : List EF) : (Xd5 l).1.length ≤ 65536 := by
 unfold Xd5
 split
 ·simp
 ·split
  ·simp
  ·split
   ·simp only; omega
   ·simp
set_option maxRecDepth 100000 in
set_option maxHeartbeats 8000000 in
theorem XtN (l : List Int) (hd : DK l) : Xa8 Tryz.prog 9 [] [.sq l.length (ia l)] (fun r H' => ∃ s : List UInt8, r = .x (.string (bs s)) ∧ H' = [] ∧ s.length ≤ 65560) := by
 refine XaG Tryz.func9 rfl ?_
 simp only [Tryz.ntmps9, Xu2, Xu5, Xu6, Xu7, Xva, Xu9, Nat.reduceAdd, Nat.reduceSub]
 (repeat' (first | with_reducible (first | refine Xah ?_ | refine Xac ?_ | refine Xae ?_ | refine Xaa ?_) | ((apply Xad rfl); (case h => (((apply Xab 0 rfl; (first | exact Xar _ rfl | exact Xao _ rfl))))); (case hT => ((try simp only [wtn]); rfl))) | (refine Xaj rfl ?_; (((refine Xaq 11 rfl ?_; ((refine Xam 13 Tryz.f13 ([]) _ _ _ rfl rfl Tryz.func13 (by decide) rfl (XuZ _) (VwL.refl _ _) (XqL l hd) ?_; rintro _ _ ⟨out, rfl, rfl, ho1, ho2, -⟩)))); apply Xak; (case hT => ((try simp only [wtn]); rfl)); (case hH => ((try simp only [wtn]); rfl)))) | fail))
 have hF := XqP (out.map clE) (fun e he => by
  obtain ⟨d, hd, rfl⟩ := List.mem_map.1 he
  exact (ho2 d hd).ok) (by rw [List.length_map]; omega) (XpM out ho1 ho2)
 have ht := XlW (out.map clE)
 unfold XuT at hF
 generalize Xd5 (out.map clE) = z at hF ht
 (repeat' (first | with_reducible (first | refine Xah ?_ | refine Xac ?_ | refine Xat ?_ | refine Xae ?_ | refine Xaa ?_) | ((apply Xad rfl); (case h => ((first | (apply Xab 0 rfl; (first | exact Xar _ rfl | exact Xao _ rfl)) | (apply Xab 2 rfl; (exact XaL _ _ _ _ rfl rfl rfl)) | (apply Xab 11 rfl; (exact Xaz 15 Tryz.f15 _ _ rfl rfl Tryz.func15 (by decide) rfl (VwL.refl _ _) (hF))) | (apply Xab 12 rfl; (exact Xbq _ _ _ _ rfl rfl rfl (by simp; omega)))))); (case hT => ((try simp only [wtn]); rfl))) | (refine Xaj rfl ?_; (((refine Xaq 11 rfl ?_; (first | (refine Xam 19 Tryz.f19 ([]) _ _ _ rfl rfl Tryz.func19 (by decide) rfl (XuZ _) (VwL.refl _ _) (XtB l []) ?_; rintro _ _ ⟨bd, rfl, rfl⟩) | (refine Xam 22 Tryz.f22 [_] _ _ _ rfl rfl Tryz.func22 (by decide) rfl (XuZ _) (VwL.refl _ _) (XsN _ l 0 ([35, 32, 101, 118, 101, 110, 116, 115, 10, 10] ++ z.1) hd (Nat.zero_le _) (by simp; omega)) ?_; rintro _ _ ⟨s, k2, rfl, rfl, hk2, hs⟩)))); apply Xak; (case hT => ((try simp only [wtn]); rfl)); (case hH => ((try simp only [wtn]); rfl)))) | fail))
 refine Xaf _ _ (Xbl rfl (RV.tmp _) (XaK.mk' [_] [] (XuZ _) (XaE.refl _ _) (by first | exact VwL.refl _ _ | fail))) ?_
 exact ⟨s, rfl, rfl, by simp at hs; omega⟩
open Go.Shelf
def Xgn : Go.Shelf.Ren := ⟨fun | 169 => 37 | n => n, fun | 70 => 72 | 9 => 9 | 0 => 0 | 72 => 74 | 37 => 39 | 127 => 133 | 3 => 3 | 5 => 5 | n => n, fun | n => n⟩
theorem Xjz : Go.Proofs.Lays.n169 Tryz.prog Xgn := {
 mixed := by kernel_rfl
 f169 := Tryz.func37.trans (congrArg some (by kernel_rfl))
 t0 := Tryz.underlying0
 a0 := Tryz.isAgg0
 z0 := Tryz.sizeOf0
 v0 := Tryz.zeroValue0
 t3 := Tryz.underlying3
 a3 := Tryz.isAgg3
 z3 := Tryz.sizeOf3
 v3 := Tryz.zeroValue3
 t9 := Tryz.underlying9
 a9 := Tryz.isAgg9
 z9 := Tryz.sizeOf9
 v9 := Tryz.zeroValue9
 t37 := Tryz.underlying39
 a37 := Tryz.isAgg39
 z37 := Tryz.sizeOf39
 v37 := Tryz.zeroValue39
 t70 := Tryz.underlying72
 a70 := Tryz.isAgg72
 z70 := Tryz.sizeOf72
 v70 := Tryz.zeroValue72
 t72 := Tryz.underlying74
 a72 := Tryz.isAgg74
 z72 := Tryz.sizeOf74
 v72 := Tryz.zeroValue74
 t127 := Tryz.underlying133
 a127 := Tryz.isAgg133
 z127 := Tryz.sizeOf133
 v127 := Tryz.zeroValue133 }
theorem Xbs : Builder.Extra Tryz.prog Xgn := {
 sizeBuilder := by kernel_rfl
 liesBuilder := by kernel_rfl
 t5 := Tryz.underlying5
 a5 := Tryz.isAgg5
 z5 := Tryz.sizeOf5
 v5 := Tryz.zeroValue5
 infoByte := by kernel_rfl
 cellsByte := by kernel_rfl
 sizeByte := by kernel_rfl
 neB5 := by decide }
open Go.RowKit in
theorem Builder_String (B b : Nat) (l : List UInt8) (w : World) (h : Lib.IsBuilder 74 5 B b (Lib.byteCells l) w) (h0 : l ≠ []) :
  Calls Tryz.prog 37 #[.pointer (some ⟨b, 0, none⟩)] w fun e w' => e = .returned (.string ⟨l.toArray⟩) ∧ Below B w w' := Any.Builder_String Xjz Xbs B b l w h h0
open Go.RowKit in
theorem Builder_String_empty (B b : Nat) (w : World) (h : Lib.IsBuilder 74 5 B b [] w) (hBw : B ≤ w.heap.size) :
  Calls Tryz.prog 37 #[.pointer (some ⟨b, 0, none⟩)] w fun e w' => e = .returned (.string ⟨#[]⟩) ∧ Below B w w' := Any.Builder_String_empty Xjz Xbs B b w h hBw
open Go.RowKit in
theorem Builder_String_any (B b : Nat) (l : List UInt8) (w : World) (h : Lib.IsBuilder 74 5 B b (Lib.byteCells l) w) (hBw : B ≤ w.heap.size) :
  Calls Tryz.prog 37 #[.pointer (some ⟨b, 0, none⟩)] w fun e w' => e = .returned (.string ⟨l.toArray⟩) ∧ Below B w w' := Any.Builder_String_any Xjz Xbs B b l w h hBw
def Xj6 : Go.Shelf.Ren := ⟨fun | 137 => 120 | 217 => 153 | 266 => 181 | n => n, fun | 9 => 9 | 5 => 5 | 3 => 3 | n => n, fun | n => n⟩
theorem XsS : Go.Proofs.Lays.n137 Tryz.prog Xj6 := {
 mixed := by kernel_rfl
 f137 := Tryz.func120.trans (congrArg some (by kernel_rfl))
 f217 := Tryz.func153.trans (congrArg some (by kernel_rfl))
 f266 := Tryz.func181.trans (congrArg some (by kernel_rfl))
 t3 := Tryz.underlying3
 a3 := Tryz.isAgg3
 z3 := Tryz.sizeOf3
 v3 := Tryz.zeroValue3
 t5 := Tryz.underlying5
 a5 := Tryz.isAgg5
 z5 := Tryz.sizeOf5
 v5 := Tryz.zeroValue5
 t9 := Tryz.underlying9
 a9 := Tryz.isAgg9
 z9 := Tryz.sizeOf9
 v9 := Tryz.zeroValue9 }
open Go.RowKit in
theorem strings_IndexByte (s : ByteArray) (c : Int) (w : World) :
  Calls Tryz.prog 120 #[.string s, .int .u8 c] w fun e w' => e = .returned (.int .i64 (Lib.indexByte s.data.toList c.toNat.toUInt8)) ∧ w' = w := Any.strings_IndexByte XsS s c w
def Xja : Go.Shelf.Ren := ⟨fun | 14 => 90 | 16 => 130 | 17 => 131 | 19 => 158 | 20 => 159 | 21 => 160 | 22 => 161 | 23 => 162 | 24 => 163 | 25 => 184 | 27 => 65 | 26 => 185 | 28 => 102 | 29 => 135 | 30 => 136 | 31 => 137 | 32 => 138 | 33 => 139 | 35 => 170 | 34 => 169 | 36 => 171 | 37 => 172 | 38 => 173 | 39 => 190 | 40 => 191 | n => n, fun | 9 => 9 | 3 => 3 | 22 => 38 | 24 => 81 | 25 => 165 | 4 => 4 | 34 => 225 | 5 => 5 | 36 => 178 | 37 => 39 | 0 => 0 | 39 => 227 | 21 => 21 | 44 => 248 | 47 => 133 | 50 => 260 | 48 => 258 | 2 => 2 | 52 => 214 | 55 => 217 | 59 => 236 | 60 => 237 | 20 => 20 | 61 => 238 | 65 => 263 | 66 => 264 | 67 => 87 | n => n, fun | 0 => 4 | 1 => 5 | 2 => 3 | 3 => 6 | 4 => 7 | n => n⟩
theorem Xic : Go.Proofs.LaysPu.n14 Tryz.prog Xja := {
 mixed := by kernel_rfl
 f14 := Tryz.func90.trans (congrArg some (by kernel_rfl))
 f16 := Tryz.func130.trans (congrArg some (by kernel_rfl))
 f17 := Tryz.func131.trans (congrArg some (by kernel_rfl))
 f19 := Tryz.func158.trans (congrArg some (by kernel_rfl))
 f20 := Tryz.func159.trans (congrArg some (by kernel_rfl))
 f21 := Tryz.func160.trans (congrArg some (by kernel_rfl))
 f22 := Tryz.func161.trans (congrArg some (by kernel_rfl))
 f23 := Tryz.func162.trans (congrArg some (by kernel_rfl))
 f24 := Tryz.func163.trans (congrArg some (by kernel_rfl))
 f25 := Tryz.func184.trans (congrArg some (by kernel_rfl))
 f26 := Tryz.func185.trans (congrArg some (by kernel_rfl))
 f27 := Tryz.func65.trans (congrArg some (by kernel_rfl))
 f28 := Tryz.func102.trans (congrArg some (by kernel_rfl))
 f29 := Tryz.func135.trans (congrArg some (by kernel_rfl))
 f30 := Tryz.func136.trans (congrArg some (by kernel_rfl))
 f31 := Tryz.func137.trans (congrArg some (by kernel_rfl))
 f32 := Tryz.func138.trans (congrArg some (by kernel_rfl))
 f33 := Tryz.func139.trans (congrArg some (by kernel_rfl))
 f34 := Tryz.func169.trans (congrArg some (by kernel_rfl))
 f35 := Tryz.func170.trans (congrArg some (by kernel_rfl))
 f36 := Tryz.func171.trans (congrArg some (by kernel_rfl))
 f37 := Tryz.func172.trans (congrArg some (by kernel_rfl))
 f38 := Tryz.func173.trans (congrArg some (by kernel_rfl))
 f39 := Tryz.func190.trans (congrArg some (by kernel_rfl))
 f40 := Tryz.func191.trans (congrArg some (by kernel_rfl))
 t0 := Tryz.underlying0
 a0 := Tryz.isAgg0
 z0 := Tryz.sizeOf0
 v0 := Tryz.zeroValue0
 i0 := by kernel_rfl
 t2 := Tryz.underlying2
 a2 := Tryz.isAgg2
 z2 := Tryz.sizeOf2
 v2 := Tryz.zeroValue2
 i2 := by kernel_rfl
 t3 := Tryz.underlying3
 a3 := Tryz.isAgg3
 z3 := Tryz.sizeOf3
 v3 := Tryz.zeroValue3
 i3 := by kernel_rfl
 t4 := Tryz.underlying4
 a4 := Tryz.isAgg4
 z4 := Tryz.sizeOf4
 v4 := Tryz.zeroValue4
 i4 := by kernel_rfl
 t5 := Tryz.underlying5
 a5 := Tryz.isAgg5
 z5 := Tryz.sizeOf5
 v5 := Tryz.zeroValue5
 i5 := by kernel_rfl
 t9 := Tryz.underlying9
 a9 := Tryz.isAgg9
 z9 := Tryz.sizeOf9
 v9 := Tryz.zeroValue9
 i9 := by kernel_rfl
 t20 := Tryz.underlying20
 a20 := Tryz.isAgg20
 z20 := Tryz.sizeOf20
 v20 := Tryz.zeroValue20
 i20 := by kernel_rfl
 t21 := Tryz.underlying21
 a21 := Tryz.isAgg21
 z21 := Tryz.sizeOf21
 v21 := Tryz.zeroValue21
 i21 := by kernel_rfl
 t22 := Tryz.underlying38
 a22 := Tryz.isAgg38
 z22 := Tryz.sizeOf38
 v22 := Tryz.zeroValue38
 i22 := by kernel_rfl
 t24 := Tryz.underlying81
 a24 := Tryz.isAgg81
 z24 := Tryz.sizeOf81
 v24 := Tryz.zeroValue81
 i24 := by kernel_rfl
 t25 := Tryz.underlying165
 a25 := Tryz.isAgg165
 z25 := Tryz.sizeOf165
 v25 := Tryz.zeroValue165
 i25 := by kernel_rfl
 t34 := Tryz.underlying225
 a34 := Tryz.isAgg225
 z34 := Tryz.sizeOf225
 v34 := Tryz.zeroValue225
 i34 := by kernel_rfl
 c34 := by kernel_rfl
 t36 := Tryz.underlying178
 a36 := Tryz.isAgg178
 z36 := Tryz.sizeOf178
 v36 := Tryz.zeroValue178
 i36 := by kernel_rfl
 t37 := Tryz.underlying39
 a37 := Tryz.isAgg39
 z37 := Tryz.sizeOf39
 v37 := Tryz.zeroValue39
 i37 := by kernel_rfl
 t39 := Tryz.underlying227
 a39 := Tryz.isAgg227
 z39 := Tryz.sizeOf227
 v39 := Tryz.zeroValue227
 i39 := by kernel_rfl
 t44 := Tryz.underlying248
 a44 := Tryz.isAgg248
 z44 := Tryz.sizeOf248
 v44 := Tryz.zeroValue248
 i44 := by kernel_rfl
 t47 := Tryz.underlying133
 a47 := Tryz.isAgg133
 z47 := Tryz.sizeOf133
 v47 := Tryz.zeroValue133
 i47 := by kernel_rfl
 t48 := Tryz.underlying258
 a48 := Tryz.isAgg258
 z48 := Tryz.sizeOf258
 v48 := Tryz.zeroValue258
 i48 := by kernel_rfl
 t50 := Tryz.underlying260
 a50 := Tryz.isAgg260
 z50 := Tryz.sizeOf260
 v50 := Tryz.zeroValue260
 i50 := by kernel_rfl
 t52 := Tryz.underlying214
 a52 := Tryz.isAgg214
 z52 := Tryz.sizeOf214
 v52 := Tryz.zeroValue214
 i52 := by kernel_rfl
 t55 := Tryz.underlying217
 a55 := Tryz.isAgg217
 z55 := Tryz.sizeOf217
 v55 := Tryz.zeroValue217
 i55 := by kernel_rfl
 t59 := Tryz.underlying236
 a59 := Tryz.isAgg236
 z59 := Tryz.sizeOf236
 v59 := Tryz.zeroValue236
 i59 := by kernel_rfl
 t60 := Tryz.underlying237
 a60 := Tryz.isAgg237
 z60 := Tryz.sizeOf237
 v60 := Tryz.zeroValue237
 i60 := by kernel_rfl
 t61 := Tryz.underlying238
 a61 := Tryz.isAgg238
 z61 := Tryz.sizeOf238
 t65 := Tryz.underlying263
 a65 := Tryz.isAgg263
 z65 := Tryz.sizeOf263
 v65 := Tryz.zeroValue263
 i65 := by kernel_rfl
 t66 := Tryz.underlying264
 a66 := Tryz.isAgg264
 z66 := Tryz.sizeOf264
 v66 := Tryz.zeroValue264
 i66 := by kernel_rfl
 t67 := Tryz.underlying87
 a67 := Tryz.isAgg87
 z67 := Tryz.sizeOf87
 v67 := Tryz.zeroValue87
 i67 := by kernel_rfl
 g0 := by kernel_rfl
 m0 := by kernel_rfl
 g1 := by kernel_rfl
 m1 := by kernel_rfl
 g2 := by kernel_rfl
 m2 := by kernel_rfl
 g3 := by kernel_rfl
 m3 := by kernel_rfl
 g4 := by kernel_rfl
 m4 := by kernel_rfl }
open Go.RowKit in
theorem strconv_ParseUint_10_at64_ok (s : ByteArray) (hmax : s.size ≤ 9223372036854775806) (u : Nat) (h : Lib.parseUintB 64 s.data.toList = .ok u) (w : World) :
  Calls Tryz.prog 90 #[.string s, .int .i64 10, .int .i64 64] w fun e w' => e = .returned (.tuple #[.int .u64 u, .nilIface]) ∧ (w' = w ∨ w' = Lib.bytesWorld w 5 s) := Any.strconv_ParseUint_10_at64_ok Xic s hmax u h w
open Go.RowKit in
theorem strconv_ParseUint_10_at64_syntax (s : ByteArray) (hlim : s.size ≤ 281474976710656) (h : Lib.parseUintB 64 s.data.toList = .«syntax») (ev : Value) (w : World) (hv : w.cell? ⟨4, 0, none⟩ = some ev) (hev : ev = .nilIface ∨ ∃ te pe, ev = .iface te pe) :
  Calls Tryz.prog 90 #[.string s, .int .i64 10, .int .i64 64] w fun e w' => ∃ N, e = .returned (.tuple #[.int .u64 0, .iface 227 (.pointer (some ⟨N, 0, none⟩))]) ∧ w.heap.size ≤ N ∧ w'.heap[N]? = some (.cells #[.string ⟨#[80, 97, 114, 115, 101, 85, 105, 110, 116]⟩, .string s, ev] 248 (0, 0)) ∧ Below w.heap.size w w' := Any.strconv_ParseUint_10_at64_syntax Xic s hlim h ev w hv hev
open Go.RowKit in
theorem strconv_ParseUint_10_at64_range (s : ByteArray) (hlim : s.size ≤ 281474976710656) (h : Lib.parseUintB 64 s.data.toList = .range) (ev : Value) (w : World) (hv : w.cell? ⟨5, 0, none⟩ = some ev) (hev : ev = .nilIface ∨ ∃ te pe, ev = .iface te pe) :
  Calls Tryz.prog 90 #[.string s, .int .i64 10, .int .i64 64] w fun e w' => ∃ N, e = .returned (.tuple #[.int .u64 18446744073709551615, .iface 227 (.pointer (some ⟨N, 0, none⟩))]) ∧ w.heap.size ≤ N ∧ w'.heap[N]? = some (.cells #[.string ⟨#[80, 97, 114, 115, 101, 85, 105, 110, 116]⟩, .string s, ev] 248 (0, 0)) ∧ Below w.heap.size w w' := Any.strconv_ParseUint_10_at64_range Xic s hlim h ev w hv hev
def Xj8 : Go.Shelf.Ren := ⟨fun | 110 => 110 | 109 => 140 | n => n, fun | 31 => 25 | 9 => 9 | 4 => 4 | 3 => 3 | 0 => 0 | n => n, fun | n => n⟩
theorem Xop : Go.Proofs.Lays.n110 Tryz.prog Xj8 := {
 mixed := by kernel_rfl
 f109 := Tryz.func140.trans (congrArg some (by kernel_rfl))
 f110 := Tryz.func110.trans (congrArg some (by kernel_rfl))
 t0 := Tryz.underlying0
 a0 := Tryz.isAgg0
 z0 := Tryz.sizeOf0
 v0 := Tryz.zeroValue0
 t3 := Tryz.underlying3
 a3 := Tryz.isAgg3
 z3 := Tryz.sizeOf3
 v3 := Tryz.zeroValue3
 t4 := Tryz.underlying4
 a4 := Tryz.isAgg4
 z4 := Tryz.sizeOf4
 v4 := Tryz.zeroValue4
 t9 := Tryz.underlying9
 a9 := Tryz.isAgg9
 z9 := Tryz.sizeOf9
 v9 := Tryz.zeroValue9
 t31 := Tryz.underlying25
 a31 := Tryz.isAgg25
 z31 := Tryz.sizeOf25
 v31 := Tryz.zeroValue25 }
open Go.Lib in
theorem slices_Contains_string (b off n c : Nat) (zs : List ByteArray) (x : ByteArray) (w : World) (hz : n ≤ zs.length) (hbig : n ≤ 9223372036854775807) (hc : ∀ j, j < zs.length → w.cell? ⟨b, off + j, none⟩ = some (.string (zs.getD j ByteArray.empty))) :
  Calls Tryz.prog 110 #[.slice (some ⟨b, off, none⟩) n c, .string x] w fun e w' => e = .returned (.bool (Lib.containsS (zs.take n) x)) ∧ w' = w := Any.slices_Contains_string Xop b off n c zs x w hz hbig hc
open Go.Lib in
theorem slices_Contains_string_empty (a : Option Addr) (c : Nat) (x : ByteArray) (w : World) :
  Calls Tryz.prog 110 #[.slice a 0 c, .string x] w fun e w' => e = .returned (.bool false) ∧ w' = w := Any.slices_Contains_string_empty Xop a c x w
def XjL : Go.Shelf.Ren := ⟨fun | 193 => 79 | n => n, fun | 31 => 25 | 9 => 9 | 4 => 4 | 3 => 3 | 0 => 0 | n => n, fun | n => n⟩
theorem Xm9 : Go.Proofs.Lays.n193 Tryz.prog XjL := {
 mixed := by kernel_rfl
 f193 := Tryz.func79.trans (congrArg some (by kernel_rfl))
 t0 := Tryz.underlying0
 a0 := Tryz.isAgg0
 z0 := Tryz.sizeOf0
 v0 := Tryz.zeroValue0
 t3 := Tryz.underlying3
 a3 := Tryz.isAgg3
 z3 := Tryz.sizeOf3
 v3 := Tryz.zeroValue3
 t4 := Tryz.underlying4
 a4 := Tryz.isAgg4
 z4 := Tryz.sizeOf4
 v4 := Tryz.zeroValue4
 t9 := Tryz.underlying9
 a9 := Tryz.isAgg9
 z9 := Tryz.sizeOf9
 v9 := Tryz.zeroValue9
 t31 := Tryz.underlying25
 a31 := Tryz.isAgg25
 z31 := Tryz.sizeOf25
 v31 := Tryz.zeroValue25 }
open Go.RowKit Go.Lib in
theorem slices_Equal_string (b1 o1 n c b2 o2 m d : Nat) (xs ys : List ByteArray) (w : World) (hx : n ≤ xs.length) (hy : m ≤ ys.length) (hbig : n ≤ 9223372036854775807) (hbig2 : m ≤ 9223372036854775807) (hc1 : ∀ j, j < xs.length → w.cell? ⟨b1, o1 + j, none⟩ = some (.string (xs.getD j ByteArray.empty))) (hc2 : ∀ j, j < ys.length → w.cell? ⟨b2, o2 + j, none⟩ = some (.string (ys.getD j ByteArray.empty))) :
  Calls Tryz.prog 79 #[.slice (some ⟨b1, o1, none⟩) n c, .slice (some ⟨b2, o2, none⟩) m d] w fun e w' => e = .returned (.bool (decide (xs.take n = ys.take m))) ∧ ∃ q, w' = w.drewN q := Any.slices_Equal_string Xm9 b1 o1 n c b2 o2 m d xs ys w hx hy hbig hbig2 hc1 hc2
open Go.RowKit Go.Lib in
theorem slices_Equal_string_empty (a1 a2 : Option Addr) (c m d : Nat) (w : World) (hbig2 : m ≤ 9223372036854775807) :
  Calls Tryz.prog 79 #[.slice a1 0 c, .slice a2 m d] w fun e w' => e = .returned (.bool (decide (m = 0))) ∧ w' = w := Any.slices_Equal_string_empty Xm9 a1 a2 c m d w hbig2
end Go.Proofs.YtdpobjakdplljaaGreatDoor
