import Derived.Test.YtdpobjakdplljaaGreatDoorW14
import Derived.Test.YtdpobjakdplljaaGreatDoorW10
import Derived.Test.YtdpobjakdplljaaGreatDoorW12
/- The reference's parser: a token taken, a sign, a number. -/
set_option linter.unusedSimpArgs false
set_option linter.unusedVariables false
namespace Go.Proofs.YtdpobjakdplljaaGreatDoor
open Go.RowKit
def VT (ts : List Tok) : Prop := ∀ k, (h : k < ts.length) → ts[k].kind ≠ 6 → k + 1 < ts.length
structure St (ts : List Tok) (k : Nat) (e : Int) (k' : Nat) (e' : Int) : Prop where
 le : k ≤ k'
 lt : k' < ts.length
 bad : e' = 0 → e = 0
def XrQ (s : List UInt8) : Int := if s = [72, 85, 80] then 1 else if s = [73, 78, 84] then 2 else if s = [81, 85, 73, 84] then 3 else if s = [85, 83, 82, 49] then 10 else if s = [85, 83, 82, 50] then 12 else if s = [84, 69, 82, 77] then 15 else 0
set_option maxRecDepth 100000 in
set_option maxHeartbeats 8000000 in
theorem XkL (s : List UInt8) : Xa8 Tryz.prog 208 [] [.x (.string (bs s))] (fun r H' => r = .x (.int .i64 (XrQ s)) ∧ H' = []) := by
 refine XaG Tryz.func208 rfl ?_
 simp only [Tryz.ntmps208, Xu2, Xu5, Xu6, Xu7, Xva, Xu9, Nat.reduceAdd, Nat.reduceSub]
 (repeat' (first | with_reducible (first | refine Xah ?_ | refine Xac ?_ | refine Xan ?_ | refine Xat ?_ | refine Xax ?_ | refine Xae ?_ | refine Xaa ?_ | refine Xaw ?_ | refine Xag ?_ | refine Xav ?_) | (refine Xai _ rfl (fun h => ?_) (fun h => ?_) <;> ((try (simp only [whn] at h)); skip)) | ((apply Xad rfl); (case h => ((first | (apply Xab 0 rfl; (first | exact Xar _ rfl | exact Xao _ rfl)) | (apply XaF; (case hs => (intro _ _ h; cases h)); (case hx => rfl); (case hrun => (intro w; simp [wtb, AV.val, go_sem]; skip; rfl)))))); (case hT => ((try simp only [wtn]); rfl))) | fail))
 all_goals
  refine Xaf _ _ (Xbl rfl (RV.tmp _) (XaK.mk' [] _ (XuZ _) (XaE.refl _ _) (VwL.refl _ _))) ?_
  refine ⟨?_, rfl⟩
  first | (simp [XrQ, ev, *]; done) | fail
def XbT (n : Nat) : List UInt8 := if h : n < 10 then [UInt8.ofNat (48 + n)] else XbT (n / 10) ++ XbT (n % 10)
termination_by n
decreasing_by
 ·omega
 ·omega
theorem Xef : ∀ (k n : Nat), n < 10 ^ (k + 1) → (XbT n).length ≤ k + 1
 | 0, n, h => by rw [XbT, dif_pos (by omega)]; simp
 | k + 1, n, h => by
  rw [XbT]
  split
  ·simp
  ·rw [Xvb]
   have h1 := Xef k (n / 10) (by rw [Nat.pow_succ] at h; omega)
   have h2 := Xef 0 (n % 10) (by omega)
   omega
theorem Xk9 (n : Nat) : Int.tdiv (n : Int) 10 = ((n / 10 : Nat) : Int) := rfl
theorem Xlk (n : Nat) : Int.tmod (n : Int) 10 = ((n % 10 : Nat) : Int) := rfl
theorem XbP (n : Nat) (hn : n ≤ 18446744073709551615) : (XbT n).length ≤ 20 :=
 Xef 19 n (by have : (10:Nat) ^ (19 + 1) = 100000000000000000000 := by decide
              omega)
set_option maxRecDepth 100000 in
set_option maxHeartbeats 8000000 in
theorem Xig (n : Nat) (h10 : n < 10) : Xa8 Tryz.prog 199 [] [.x (.int .u64 n)] (fun r H' => r = .x (.string (bs (XbT n))) ∧ H' = []) := by
 refine XaG Tryz.func199 rfl ?_
 simp only [Tryz.ntmps199, Xu2, Xu5, Xu6, Xu7, Xva, Xu9, Nat.reduceAdd, Nat.reduceSub]
 (repeat' (first | with_reducible (first | refine Xah ?_ | refine Xac ?_ | refine Xat ?_ | refine Xae ?_ | refine Xaa ?_ | refine Xaw ?_) | (refine Xai _ rfl (fun h => ?_) (fun h => ?_) <;> ((try (simp only [whn] at h)); first | (exfalso; omega; done) | skip)) | ((apply Xad rfl); (case h => ((first | (apply Xab 0 rfl; (first | exact Xar _ rfl | exact Xao _ rfl)) | (apply Xab 12 rfl; (exact XbM _ _ 5 _ [_] rfl (by kernel_rfl) (by kernel_rfl) (by kernel_rfl) (Src.chr 0 _ (by omega) (by omega) rfl rfl))) | (apply XaF; (case hs => (intro _ _ h; cases h)); (case hx => rfl); (case hrun => (intro w; simp [wtb, AV.val, go_sem]; (try go_bits); rfl)))))); (case hT => ((try simp only [wtn]); rfl))) | (refine Xaj rfl ?_; (((refine Xaq 17 rfl ?_; ((refine XaB _ _ _ _ _ _ _ _ rfl XaQ.out (by first | rfl | fail) rfl (by decide) rfl (fun b => ?_))))); apply Xak; (case hT => ((try simp only [wtn]); rfl)); (case hH => ((try simp only [wtn]); rfl)))) | fail))
 refine Xaf _ _ (Xbl rfl (RV.tmp _) (XaK.mk' [_] [] (XuZ _) (XaE.refl _ _) (by first | exact VwL.refl _ _ | fail))) ?_
 refine ⟨?_, rfl⟩
 rw [XbT, dif_pos h10]
 simp only [ev, List.getD_cons_succ, List.getD_cons_zero]
 congr 3
set_option maxRecDepth 100000 in
set_option maxHeartbeats 8000000 in
theorem XjU (n : Nat) (hn : n ≤ 18446744073709551615) (h10 : ¬ n < 10) (h1 : Xa8 Tryz.prog 199 [] [.x (.int .u64 (n / 10 : Nat))] (fun r H' => r = .x (.string (bs (XbT (n / 10)))) ∧ H' = []))
  (h2 : Xa8 Tryz.prog 199 [] [.x (.int .u64 (n % 10 : Nat))] (fun r H' => r = .x (.string (bs (XbT (n % 10)))) ∧ H' = [])) : Xa8 Tryz.prog 199 [] [.x (.int .u64 n)] (fun r H' => r = .x (.string (bs (XbT n))) ∧ H' = []) := by
 have hL1 := XbP (n / 10) (by omega)
 have hL2 := XbP (n % 10) (by omega)
 refine XaG Tryz.func199 rfl ?_
 simp only [Tryz.ntmps199, Xu2, Xu5, Xu6, Xu7, Xva, Xu9, Nat.reduceAdd, Nat.reduceSub]
 (repeat' (first | with_reducible (first | refine Xah ?_ | refine Xac ?_ | refine Xat ?_ | refine Xax ?_ | refine Xae ?_ | refine Xaa ?_) | (refine Xai _ rfl (fun h => ?_) (fun h => ?_) <;> ((try (simp only [whn] at h)); first | (exfalso; omega; done) | skip)) | ((apply Xad rfl); (case h => ((first | (apply Xab 0 rfl; (first | exact Xar _ rfl | exact Xao _ rfl)) | (apply Xab 11 rfl; (first | exact Xaz 199 Tryz.f199 _ _ rfl rfl Tryz.func199 (by decide) rfl (VwL.refl _ _) (h1) | exact Xaz 199 Tryz.f199 _ _ rfl rfl Tryz.func199 (by decide) rfl (VwL.refl _ _) (h2))) | (apply Xab 12 rfl; (exact Xbq _ _ _ _ rfl rfl rfl (by omega))) | (apply XaF; (case hs => (intro _ _ h; cases h)); (case hx => rfl); (case hrun => (intro w; simp [wtb, AV.val, go_sem]; (try go_bits); rfl)))))); (case hT => ((try simp (disch := omega) only [wtn, Xk9, Xlk, Xu3, Xu0, Xu1, Xu4, Xu8, Nat.reduceAdd, Nat.reduceMul, Nat.reduceSub, ↓reduceIte, Nat.reduceEqDiff]); rfl))) | fail))
 refine Xaf _ _ (Xbl rfl (RV.tmp _) (XaK.mk' [] _ (XuZ _) (XaE.refl _ _) (VwL.refl _ _))) ?_
 refine ⟨?_, rfl⟩
 conv => rhs; rw [XbT, dif_neg h10]
 rfl
theorem Xnx (n : Nat) (hn : n ≤ 18446744073709551615) : Xa8 Tryz.prog 199 [] [.x (.int .u64 n)] (fun r H' => r = .x (.string (bs (XbT n))) ∧ H' = []) := by
 induction n using Nat.strongRecOn with
 | _ n ih =>
  by_cases h10 : n < 10
  ·exact Xig n h10
  ·exact XjU n hn h10 (ih (n / 10) (by omega) (by omega)) (ih (n % 10) (by omega) (by omega))
def XdE (n : Int) : List UInt8 := if n = 3 then [97, 108, 119, 97, 121, 115] else if n = 2 then [111, 110, 45, 102, 97, 105, 108, 117, 114, 101] else if n = 1 then [110, 101, 118, 101, 114] else [63]
set_option maxRecDepth 100000 in
set_option maxHeartbeats 8000000 in
theorem XpI (n : Int) : Xa8 Tryz.prog 198 [] [.x (.int .i64 n)] (fun r H' => r = .x (.string (bs (XdE n))) ∧ H' = []) := by
 refine XaG Tryz.func198 rfl ?_
 simp only [Tryz.ntmps198, Xu2, Xu5, Xu6, Xu7, Xva, Xu9, Nat.reduceAdd, Nat.reduceSub]
 (repeat' (first | with_reducible (first | refine Xah ?_ | refine Xac ?_ | refine Xan ?_ | refine Xat ?_ | refine Xax ?_ | refine Xae ?_ | refine Xaa ?_ | refine Xaw ?_ | refine Xag ?_ | refine Xav ?_) | (refine Xai _ rfl (fun h => ?_) (fun h => ?_) <;> ((try (simp only [whn] at h)); skip)) | ((apply Xad rfl); (case h => ((first | (apply Xab 0 rfl; (first | exact Xar _ rfl | exact Xao _ rfl)) | (apply XaF; (case hs => (intro _ _ h; cases h)); (case hx => rfl); (case hrun => (intro w; simp [wtb, AV.val, go_sem]; skip; rfl)))))); (case hT => ((try simp only [wtn]); rfl))) | fail))
 all_goals
  refine Xaf _ _ (Xbl rfl (RV.tmp _) (XaK.mk' [] _ (XuZ _) (XaE.refl _ _) (VwL.refl _ _))) ?_
  refine ⟨?_, rfl⟩
  first | (simp [XdE, ev, *, bs]; done) | fail
def XcW : List (List UInt8) := [[72, 85, 80], [73, 78, 84], [81, 85, 73, 84], [85, 83, 82, 49], [85, 83, 82, 50], [84, 69, 82, 77]]
def Xg2 (n : Int) : List UInt8 := match XcW.find? (fun s => XrQ s == n) with | some s => s | none => [63]
theorem XmB {α : Type} (l : List α) (p : α → Bool) (k : Nat) (h : k < l.length) (hn : ∀ x ∈ l.take k, p x = false) (hp : p l[k] = true) : l.find? p = some l[k] := by
 rw [List.find?_eq_some_iff_getElem]
 refine ⟨hp, k, h, rfl, fun j hj => ?_⟩
 rw [hn l[j] (List.mem_iff_getElem.2 ⟨j, by rw [List.length_take]; omega, by rw [List.getElem_take]⟩)]; rfl
theorem Xnf : XcW.length = 6 := rfl
set_option maxRecDepth 100000 in
set_option maxHeartbeats 8000000 in
theorem Xno (n : Int) : Xa8 Tryz.prog 200 [] [.x (.int .i64 n)] (fun r H' => r = .x (.string (bs (Xg2 n))) ∧ H' = []) := by
 refine XaG Tryz.func200 rfl ?_
 simp only [Tryz.ntmps200, Xu2, Xu5, Xu6, Xu7, Xva, Xu9, Nat.reduceAdd, Nat.reduceSub]
 (repeat' (first | with_reducible (first | refine Xah ?_ | refine Xac ?_ | refine Xan ?_ | refine Xae ?_ | refine Xaa ?_) | ((apply Xad rfl); (case h => (((apply Xab 0 rfl; (exact Xao _ rfl))))); (case hT => ((try simp only [wtn]); rfl))) | (refine Xaj rfl ?_; (((refine Xaq 17 rfl ?_; ((refine XaB _ _ _ _ _ _ _ _ rfl XaQ.out (by first | rfl | fail) rfl (by decide) rfl (fun b => ?_))))); apply Xak; (case hT => ((try simp only [wtn]); rfl)); (case hH => ((try simp only [wtn]); rfl)))) | fail))
 refine XaT (S := Nat) (fun k => frm 23 [(0, .x (.int .i64 n)), (3, .x (.slice (some ⟨b, 0, none⟩) 6 6)), (4, .x (.int .i64 k))]) (fun _ => [.row (some ⟨b, 0, none⟩) 6 6 9 1 (sa XcW)]) (fun k => k ≤ 6 ∧ ∀ x ∈ XcW.take k, (XrQ x == n) = false) (fun k => 6 - k) 0 (XaK.mk' [] _ (XuZ _) (XaE.refl _ _) (by (repeat' (first | exact VwL.nil | (refine VwL.cons ?_ ?_) | exact Vw.refl _ | exact Vw.top _ | fail)))) ⟨Nat.zero_le _, by simp⟩ fun k hk => ?_
 obtain ⟨hk, hn⟩ := hk
 have hn' := Lib.hid hn
 clear hn
 have hnl := Xnf
 simp only [frm, Xu6, Xu7, Xu0, Xu1, Xvd, Xve]
 (repeat' (first | with_reducible (first | refine Xah ?_ | refine Xac ?_ | refine Xan ?_ | refine Xat ?_ | refine Xax ?_ | refine XaW ?_ | refine Xae ?_ | refine Xaa ?_ | refine XaM ?_ | refine Xaw ?_ | refine XaI ?_ | refine Xag ?_ | refine Xav ?_) | (refine Xai _ rfl (fun h => ?_) (fun h => ?_) <;> ((try (simp only [whn] at h)); skip)) | ((apply Xad rfl); (case h => ((first | (apply Xab 0 rfl; (first | exact Xar _ rfl | exact Xao _ rfl)) | (apply Xab 6 rfl; (exact XbR _ _ _ _ _ _ _ _ _ _ _ _ rfl rfl XbD.out XaO.out (by first | (simp [wlq]; omega) | fail) (by first | (simp [wlq]; omega) | fail))) | (apply Xab 7 rfl; (exact Xbw _ _ _ _ _ _ _ _ _ _ _ _ rfl rfl rfl HEl.out rfl (by first | omega | fail))) | (apply Xab 11 rfl; (exact Xaz 208 Tryz.f208 _ _ rfl rfl Tryz.func208 (by decide) rfl (VwL.refl _ _) (XkL _))) | (apply XaF; (case hs => (intro _ _ h; cases h)); (case hx => rfl); (case hrun => (intro w; simp [wtb, AV.val, go_sem]; (try go_bits); rfl)))))); (case hT => ((try simp (disch := omega) only [wtn, Xds, Xu3, Xu0, Xu1, Xu4, Xu8, Nat.reduceAdd, Nat.reduceMul, Nat.reduceSub, ↓reduceIte, Nat.reduceEqDiff]); rfl))) | fail))
 ·refine Xaf _ _ (Xbl rfl (RV.tmp _) (XaK.mk' [_] [] (XuZ _) (XaE.refl _ _) (by first | exact VwL.refl _ _ | fail))) ?_
  refine ⟨?_, rfl⟩
  unfold Xg2
  rw [XmB _ _ k (by omega) hn'.out (by simp [h])]
  rfl
 ·exact ⟨k + 1, by omega, ⟨by omega, by rw [Xa4 _ k (by omega)]; intro x hx; rcases List.mem_append.1 hx with hx | hx; exact hn'.out x hx; rw [List.mem_singleton] at hx; subst hx; exact Xvg.2 h⟩, (XaK.mk' [] _ (XuZ _) (XaE.refl _ _) (by (repeat' (first | exact VwL.nil | (refine VwL.cons ?_ ?_) | exact Vw.refl _ | exact Vw.top _ | fail))))⟩
 ·refine Xaf _ _ (Xbl rfl (RV.tmp _) (XaK.mk' [_] [] (XuZ _) (XaE.refl _ _) (by first | exact VwL.refl _ _ | fail))) ?_
  refine ⟨?_, rfl⟩
  unfold Xg2
  have hn := hn'.out
  rw [List.take_of_length_le (by omega)] at hn
  have : XcW.find? (fun s => XrQ s == n) = none := by rw [List.find?_eq_none]; intro x hx; rw [hn x hx]; simp
  rw [this]
  rfl
def slB (b : UInt8) : List UInt8 := if b.toNat = 47 then [92, b] else [b]
theorem Xsj (b : UInt8) : (slB b).length ≤ 2 := by unfold slB; split <;> simp
def XbU (s : List UInt8) : List UInt8 := s.flatMap slB
theorem Xj4 (s : List UInt8) (k : Nat) (h : k < s.length) : XbU (s.take (k + 1)) = XbU (s.take k) ++ slB s[k] := by
 unfold XbU; rw [Xa4 s k h, List.flatMap_append]; congr 1; simp
theorem Xfj (s : List UInt8) : (XbU s).length ≤ 2 * s.length := by
 unfold XbU
 induction s with
 | nil => simp
 | cons b s ih => have := Xsj b; simp only [List.flatMap_cons, Xvb, Xu2]; omega
set_option maxRecDepth 100000 in
set_option maxHeartbeats 8000000 in
theorem Xko (s : List UInt8) (hl : s.length ≤ 1000000) : Xa8 Tryz.prog 197 [] [.x (.string (bs s))] (fun r H' => r = .x (.string (bs (XbU s))) ∧ H' = []) := by
 refine XaG Tryz.func197 rfl ?_
 simp only [Tryz.ntmps197, Xu2, Xu5, Xu6, Xu7, Xva, Xu9, Nat.reduceAdd, Nat.reduceSub]
 (repeat' (first | with_reducible (first | refine Xah ?_ | refine Xac ?_ | refine Xan ?_ | refine Xae ?_ | refine Xaa ?_) | ((apply Xad rfl); (case h => (((apply Xab 0 rfl; (exact Xao _ rfl))))); (case hT => ((try simp only [wtn]); rfl))) | fail))
 refine XbA 5 1 ?_
 refine XaT (S := Nat × Option Addr × Nat) (fun q => frm 26 [(0, .x (.string (bs s))), (3, .x (.slice q.2.1 (XbU (s.take q.1)).length q.2.2)), (4, .x (.int .i64 q.1))]) (fun q => [.row q.2.1 (XbU (s.take q.1)).length q.2.2 5 1 (u8a (XbU (s.take q.1)))]) (fun q => q.1 ≤ s.length) (fun q => s.length - q.1) (0, none, 0) ?a (Nat.zero_le _) fun q hq => ?_
 case a => exact (XaK.mk' [] _ (XuZ _) (XaE.refl _ _) (by (repeat' (first | exact VwL.nil | (refine VwL.cons ?_ ?_) | exact Vw.refl _ | exact Vw.top _ | fail))))
 obtain ⟨k, ad, cap⟩ := q
 simp only at hq
 have hsl := Xfj (s.take k)
 rw [List.length_take] at hsl
 simp only [frm, Xu6, Xu7, Xu0, Xu1, Xvd, Xve]
 by_cases hk : k < s.length
 ·have hsu := Lib.hid (Xj4 s k hk)
  (repeat' (first | with_reducible (first | refine Xah ?_ | refine Xac ?_ | refine Xan ?_ | refine Xax ?_ | refine Xae ?_ | refine Xaa ?_ | refine Xag ?_) | (refine Xai _ rfl (fun h => ?_) (fun h => ?_) <;> ((try (simp only [whn] at h)); first | (exfalso; omega; done) | skip)) | ((apply Xad rfl); (case h => ((first | (apply Xab 0 rfl; (first | exact Xar _ rfl | exact Xao _ rfl)) | (apply Xab 8 rfl; (exact XaS _ _ _ _ _ _ _ rfl rfl rfl (by kernel_rfl) rfl (by omega))) | (apply XaF; (case hs => (intro _ _ h; cases h)); (case hx => rfl); (case hrun => (intro w; simp [wtb, AV.val, go_sem]; (try go_bits); rfl)))))); (case hT => ((try simp (disch := assumption) only [wtn, Xez, Xfm, Xu3, Xu0, Xu1, Xu4, Xu8, Nat.reduceAdd, Nat.reduceMul, Nat.reduceSub, ↓reduceIte, Nat.reduceEqDiff]); rfl))) | (refine Xaj rfl ?_; ((first | (refine Xaq 13 rfl ?_; ((refine XaH _ _ _ _ _ _ _ _ _ _ _ _ _ _ rfl rfl XbD.out (Src.row _ rfl XbD.out) XaQ.out (by first | rfl | fail) (XcD _ _ (by omega) (by decide)) (fun ad cap => ?_)))) | (refine Xaq 17 rfl ?_; ((refine XaB _ _ _ _ _ _ _ _ rfl XaQ.out (by first | rfl | fail) rfl (by decide) rfl (fun b => ?_))))); apply Xak; (case hT => ((try simp (disch := omega) only [wtn, Xez, Xfm, Xu3, Xu0, Xu1, Xu4, Xu8, Nat.reduceAdd, Nat.reduceMul, Nat.reduceSub, ↓reduceIte, Nat.reduceEqDiff]); rfl)); (case hH => ((try simp (disch := omega) only [wtn, Xez, Xfm, Xu3, Xu0, Xu1, Xu4, Xu8, Nat.reduceAdd, Nat.reduceMul, Nat.reduceSub, ↓reduceIte, Nat.reduceEqDiff]); rfl)))) | fail))
  ·have e : XbU (s.take (k + 1)) = XbU (s.take k) ++ [92, s[k]] := by rw [hsu.out]; congr 1; unfold slB; rw [if_pos (by omega)]
   refine ⟨(k + 1, ad, cap), by simp only; omega, by simp only; omega, ?_⟩
   simp only [e, XcV, Xcl, Xdl, List.append_assoc, Xva, Xu9, Xvb, Xu2, Xu5]
   exact (XaK.mk' [_, _] [_] (XuZ _) (XaE.refl _ _) (by (repeat' (first | exact VwL.nil | (refine VwL.cons ?_ ?_) | exact Vw.refl _ | exact Vw.top _ | fail))))
  ·have e : XbU (s.take (k + 1)) = XbU (s.take k) ++ [s[k]] := by rw [hsu.out]; congr 1; unfold slB; rw [if_neg (by omega)]
   refine ⟨(k + 1, ad, cap), by simp only; omega, by simp only; omega, ?_⟩
   simp only [e, XcV, Xcl, Xdl, Xvb, Xu2, Xu5]
   exact (XaK.mk' [_] [_] (XuZ _) (XaE.refl _ _) (by (repeat' (first | exact VwL.nil | (refine VwL.cons ?_ ?_) | exact Vw.refl _ | exact Vw.top _ | fail))))
 ·obtain rfl : k = s.length := by omega
  (repeat' (first | with_reducible (first | refine Xah ?_ | refine Xac ?_ | refine Xat ?_ | refine XaW ?_ | refine Xae ?_ | refine Xaa ?_ | refine XaM ?_ | refine XaI ?_) | (refine Xai _ rfl (fun h => ?_) (fun h => ?_) <;> first | (exact absurd h (by decide)) | ((try (simp only [] at h)); skip)) | ((apply Xad rfl); (case h => ((first | (apply Xab 0 rfl; (first | exact Xar _ rfl | exact Xao _ rfl)) | (apply Xab 12 rfl; (exact XbM _ _ 5 _ _ rfl (by kernel_rfl) (by kernel_rfl) (by kernel_rfl) (Src.row 0 rfl rfl))) | (apply XaF; (case hs => (intro _ _ h; cases h)); (case hx => rfl); (case hrun => (intro w; simp [wtb, AV.val, go_sem]; skip; rfl)))))); (case hT => ((try simp only [wtn]); rfl))) | fail))
  refine Xaf _ _ (Xbl rfl (RV.tmp _) (XaK.mk' [_] [] (XuZ _) (XaE.refl _ _) (by first | exact VwL.refl _ _ | fail))) ?_
  refine ⟨?_, rfl⟩
  simp only [ev, List.getD_cons_succ, List.getD_cons_zero, List.take_length]
def kts (ts : List Tok) : List (Int × List UInt8) := ts.map fun t => (t.kind, t.text)
def Xa1 (C : List UInt8 → Prop) (l : List UInt8) (ks : List (Int × List UInt8)) : Prop :=
 ∀ (p : Nat × Nat) (n : Nat) (t : List UInt8), C t → n + ks.length ≤ 2000 → ∃ ts : List Tok, kts ts = ks ∧ Xce p n (l ++ t) = (Xce (plc p l) (n + ks.length) t).map (ts ++ ·)
def Any (_ : List UInt8) : Prop := True
def Brk : List UInt8 → Prop
 | [] => True
 | c :: _ => Xcq c = false
theorem map_map {α β γ : Type} (x : Except Flt α) (f : α → β) (g : β → γ) : (x.map f).map g = x.map fun a => g (f a) := by cases x <;> rfl
theorem Xa1.app {C D : List UInt8 → Prop} {a b : List UInt8} {ks ms : List (Int × List UInt8)} (ha : Xa1 C a ks) (hb : Xa1 D b ms) (h : ∀ t, D t → C (b ++ t)) : Xa1 D (a ++ b) (ks ++ ms) := by
 intro p n t ht hn
 rw [Xvb] at hn
 obtain ⟨ts, h1, h2⟩ := ha p n (b ++ t) (h t ht) (by omega)
 obtain ⟨us, h3, h4⟩ := hb (plc p a) (n + ks.length) t ht (by omega)
 refine ⟨ts ++ us, by simp [kts] at *; rw [h1, h3], ?_⟩
 rw [List.append_assoc, h2, h4, map_map, Xf1, Xvb, Nat.add_assoc]
 simp only [List.append_assoc]
theorem Xa1.then {D : List UInt8 → Prop} {a b : List UInt8} {ks ms : List (Int × List UInt8)} (ha : Xa1 Any a ks) (hb : Xa1 D b ms) : Xa1 D (a ++ b) (ks ++ ms) := ha.app hb fun _ _ => trivial
theorem Xa1.brk {D : List UInt8 → Prop} {a r : List UInt8} {c : UInt8} {ks ms : List (Int × List UInt8)} (ha : Xa1 Brk a ks) (hc : Xcq c = false) (hb : Xa1 D (c :: r) ms) : Xa1 D (a ++ c :: r) (ks ++ ms) := ha.app hb fun _ _ => hc
theorem Xa1.nil : Xa1 Any [] [] := fun p n t _ _ => ⟨[], rfl, by simp only [Xu9, Xu5, Nat.add_zero, plc]; exact (XdO _ _ fun a => rfl).symm⟩
theorem Xa1.blank {c : UInt8} (h : c.toNat = 32 ∨ c.toNat = 9 ∨ c.toNat = 10 ∨ c.toNat = 13) : Xa1 Any [c] [] := fun p n t _ _ => ⟨[], rfl, by
 rw [Xoj [c] t p n (by show skp (c :: t) = _; rw [Xfc c t h]; simp; omega)]
 simp only [Xu5, Nat.add_zero, Xu9]
 exact (XdO _ _ fun a => rfl).symm⟩
theorem Xa1.tok {C : List UInt8 → Prop} {c : UInt8} {r s : List UInt8} {k : Int} (hb : ¬(c.toNat = 32 ∨ c.toNat = 9 ∨ c.toNat = 10 ∨ c.toNat = 13)) (h35 : c.toNat ≠ 35) (h : ∀ t, C t → one (c :: r ++ t) = .ok (k, s, r.length + 1)) : Xa1 C (c :: r) [(k, s)] := fun p n t ht hn => by
 simp only [Xu2, Xu5] at hn
 have h0 : skp (c :: r ++ t) = 0 := Xlh _ _ hb h35
 refine ⟨[⟨k, s, (plc p []).1, (plc p []).2⟩], rfl, ?_⟩
 rw [Xc9 p n (c :: r ++ t) c (r ++ t) k s (r.length + 1) (by rw [h0]; rfl) (h t ht) (by omega) (by omega), h0]
 have e1 : (c :: (r ++ t)).drop (r.length + 1) = t := by rw [List.drop_succ_cons, List.drop_left]
 have e2 : (c :: r ++ t).take (0 + (r.length + 1)) = c :: r := by rw [Nat.zero_add]; exact List.take_left' rfl
 rw [e1, e2]
 rfl
theorem Xa1.sign {c : UInt8} (h : c.toNat = 123 ∨ c.toNat = 125 ∨ c.toNat = 44 ∨ c.toNat = 61) : Xa1 Any [c] [(5, [c])] := by
 refine Xa1.tok (by omega) (by omega) fun t _ => ?_
 have h1 : Xb7 c = false := by simp only [Xb7, decide_eq_false_iff_not]; omega
 have h2 : Xbk c = false := by simp only [Xbk, decide_eq_false_iff_not]; omega
 simp only [Xva, Xu9, one, h1, h2, Bool.false_eq_true, if_false]
 rw [if_neg (by omega), if_neg (by omega), if_pos h]; rfl
theorem Xkw {p : UInt8 → Bool} {t : List UInt8} (ht : ∀ c r, t = c :: r → p c = false) : ∀ l : List UInt8, (∀ b ∈ l, p b = true) → spn p (l ++ t) = l.length
 | [], _ => by
  cases t with
  | nil => rfl
  | cons c r => rw [Xu9, Xk7 p c r (ht c r rfl)]; rfl
 | c :: l, h => by rw [Xva, XeD p c _ (h c (by simp)), Xkw ht l fun b hb => h b (by simp [hb])]; rfl
def Xcy : List UInt8 → Prop
 | [] => False
 | c :: r => Xb7 c = true ∧ ∀ b ∈ r, Xcq b = true
def XqE : List UInt8 → Prop
 | [] => False
 | c :: r => Xbk c = true ∧ (∀ b ∈ r, Xbk b = true) ∧ r.length < 18 ∧ (r ≠ [] → c.toNat ≠ 48)
theorem XoY {b : UInt8} (h : Xbk b = true) : Xcq b = true := by simp [Xcq, h]
theorem Xa1.word {w : List UInt8} (h : Xcy w) : Xa1 Brk w [(1, w)] := by
 cases w with
 | nil => exact h.elim
 | cons c r =>
  obtain ⟨h1, h2⟩ := h
  have hl := h1
  simp only [Xb7, decide_eq_true_eq] at hl
  refine Xa1.tok (by omega) (by omega) fun t ht => ?_
  have hs : spn Xcq (c :: (r ++ t)) = r.length + 1 := by
   have := Xkw (p := Xcq) (t := t) (fun d u e => by subst e; exact ht) (c :: r) (fun b hb => by
    rcases List.mem_cons.1 hb with rfl | hb
    ·simp [Xcq, h1]
    ·exact h2 b hb)
   simpa using this
  simp only [Xva, one, h1, if_true, hs]
  rw [List.take_succ_cons, List.take_left]
theorem Xa1.num {d : List UInt8} (h : XqE d) : Xa1 Brk d [(2, d)] := by
 cases d with
 | nil => exact h.elim
 | cons c r =>
  obtain ⟨h1, h2, h3, h4⟩ := h
  have hl := h1
  simp only [Xbk, decide_eq_true_eq] at hl
  refine Xa1.tok (by omega) (by omega) fun t ht => ?_
  have hs : spn Xbk (c :: (r ++ t)) = r.length + 1 := by
   have := Xkw (p := Xbk) (t := t) (fun d u e => by
    subst e
    cases hd : Xbk d with
    | false => rfl
    | true => have := XoY hd; rw [show Xcq d = false from ht] at this; cases this) (c :: r) (fun b hb => by
    rcases List.mem_cons.1 hb with rfl | hb
    ·exact h1
    ·exact h2 b hb)
   simpa using this
  have hnl : Xb7 c = false := by simp only [Xb7, decide_eq_false_iff_not]; omega
  simp only [Xva, one, hnl, h1, Bool.false_eq_true, if_false, if_true, hs]
  rw [if_neg (by
   rintro (h | ⟨h, h'⟩)
   ·omega
   ·exact h4 (by intro e; subst e; simp at h) h'), List.take_succ_cons, List.take_left]
theorem Xa1.str (s : List UInt8) : Xa1 Any (Xc8 s) [(3, s)] := by
 show Xa1 Any (34 :: (s.flatMap XiE ++ [34])) [(3, s)]
 refine Xa1.tok (by decide) (by decide) fun t _ => ?_
 have h1 : Xb7 34 = false := by decide
 have h2 : Xbk 34 = false := by decide
 simp only [Xva, List.append_assoc, Xu9, one, h1, h2, Bool.false_eq_true, if_false]
 rw [if_pos (by decide), Xlq]
 simp
def XhO : List UInt8 → Prop
 | [] => True
 | [c] => 32 ≤ c.toNat ∧ c.toNat ≠ 92
 | c :: d :: r => 32 ≤ c.toNat ∧ (if c.toNat = 92 then 32 ≤ d.toNat ∧ d.toNat ≠ 47 ∧ XhO r else XhO (d :: r))
theorem Xkc {c : UInt8} (h : c.toNat ≠ 47) : slB c = [c] := if_neg h
theorem Xlm (t : List UInt8) {c : UInt8} (h : 32 ≤ c.toNat) (h2 : c.toNat ≠ 92) (l : List UInt8) : sla (slB c ++ l) = (sla l).map fun x => (c :: x.1, (slB c).length + x.2) := by
 by_cases h3 : c.toNat = 47
 ·have e : slB c = [92, c] := if_pos h3
  rw [e]
  exact Xgl 92 c l (by decide) h3
 ·rw [Xkc h3]
  exact Xgq c l h3 h h2
theorem Xgw (t : List UInt8) : ∀ s : List UInt8, XhO s → sla (XbU s ++ 47 :: t) = some (s, (XbU s).length + 1)
 | [], _ => by simp only [XbU, List.flatMap_nil, Xu9]; rw [Xfw 47 t (by decide)]; rfl
 | [c], h => by
  simp only [XbU, List.flatMap_cons, List.flatMap_nil, List.append_assoc, Xu9]
  rw [Xlm t h.1 h.2, Xfw 47 t (by decide)]
  simp
 | c :: d :: r, h => by
  obtain ⟨h1, h2⟩ := h
  by_cases h3 : c.toNat = 92
  ·rw [if_pos h3] at h2
   have ih := Xgw t r h2.2.2
   simp only [XbU, List.flatMap_cons, List.append_assoc] at ih ⊢
   rw [Xkc (show c.toNat ≠ 47 by omega), Xkc h2.2.1]
   simp only [Xva, Xu9, Xu2]
   rw [Xf3 c d _ h3 h2.1 h2.2.1, ih]
   simp; omega
  ·rw [if_neg h3] at h2
   have ih := Xgw t (d :: r) h2
   have e : XbU (c :: d :: r) = slB c ++ XbU (d :: r) := rfl
   rw [e, List.append_assoc, Xlm t h1 h3, ih]
   simp; omega
theorem Xa1.pat {s : List UInt8} (h : XhO s) : Xa1 Any (47 :: (XbU s ++ [47])) [(4, s)] := by
 refine Xa1.tok (by decide) (by decide) fun t _ => ?_
 have h1 : Xb7 47 = false := by decide
 have h2 : Xbk 47 = false := by decide
 simp only [Xva, List.append_assoc, Xu9, one, h1, h2, Bool.false_eq_true, if_false]
 rw [if_neg (by decide), if_pos (by decide), Xgw t s h]
 simp
end Go.Proofs.YtdpobjakdplljaaGreatDoor
