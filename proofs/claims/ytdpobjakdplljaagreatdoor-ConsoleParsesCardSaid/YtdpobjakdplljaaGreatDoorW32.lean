import Derived.Test.YtdpobjakdplljaaGreatDoorW31
import Derived.Test.YtdpobjakdplljaaGreatDoorW6
import Derived.Test.YtdpobjakdplljaaGreatDoorW19
import Derived.Test.YtdpobjakdplljaaGreatDoorW29
/- The reference of scripts: the line of an event, which events are equal: exactly. -/
set_option linter.unusedSimpArgs false
set_option linter.unusedVariables false
namespace Go.Proofs.YtdpobjakdplljaaGreatDoor
open Go.RowKit
structure EOk (e : EF) : Prop where
 job : e.job.length ≤ 1000000
 data : e.data.length ≤ 1000000
 code : -9223372036854775808 ≤ e.code ∧ e.code ≤ 9223372036854775807
 time : 0 ≤ e.time ∧ e.time ≤ 18446744073709551615
 client : -9223372036854775808 ≤ e.client ∧ e.client ≤ 9223372036854775807
 num : -9223372036854775808 ≤ e.num ∧ e.num ≤ 9223372036854775807
def Xmx (k : Int) : List UInt8 := if 1 ≤ k ∧ k ≤ 14 then XbF.getD (k.toNat - 1) [] else []
def XgW (k : Int) : List UInt8 := if 1 ≤ k ∧ k ≤ 14 then Xa5.getD (k.toNat - 1) [] else []
theorem Xll (e : EF) : Xeb e = Xmx e.kind ++ Xb5 e (XgW e.kind) := by
 unfold Xeb Xmx XgW
 split
 ·rfl
 ·simp [Xb5]
set_option maxRecDepth 100000 in
set_option maxHeartbeats 8000000 in
theorem Xsh (k : Int) (h : ¬ (1 ≤ k ∧ k ≤ 14)) : Xa8 Tryz.prog 57 [] [.x (.int .i64 k)] (fun r H' => r = .tup [.x (.string (bs [])), .x (.string (bs []))] ∧ H' = []) := by
 refine XaG Tryz.func57 rfl ?_
 simp only [Tryz.ntmps57, Xu2, Xu5, Xu6, Xu7, Xva, Xu9, Nat.reduceAdd, Nat.reduceSub]
 (repeat' (first | with_reducible (first | refine Xah ?_ | refine Xac ?_ | refine Xat ?_ | refine Xae ?_ | refine Xaa ?_ | refine Xaw ?_) | (refine Xai _ rfl (fun h => ?_) (fun h => ?_) <;> ((try (simp only [whn] at h)); first | (exfalso; omega; done) | skip)) | ((first | apply Xad rfl | apply Xa7 _ _ rfl rfl rfl); (case h => ((try (intro (hp : (_ : Bool) = true); ((try simp only [Bool.not_eq_true'] at hp); (try simp only [hp, wte]); (try simp only [whn] at hp)))); (first | (apply Xab 0 rfl; (first | exact Xar _ rfl | exact Xao _ rfl)) | (apply Xab 1 rfl; (exact Xcz _ _ _ _ _ rfl rfl rfl rfl)) | (apply Xab 3 rfl; (exact XaX _ _ _ _ _ _ HEl.out rfl rfl)) | (apply Xab 17 rfl; (exact XbN _ _ _ _ _ _ rfl XaQ.out rfl (by first | rfl | fail) rfl rfl (by decide))) | (apply XaF; (case hs => (intro _ _ h; cases h)); (case hx => rfl); (case hrun => (intro w; simp [wtb, AV.val, go_sem]; skip; rfl)))))); (case hT => ((try simp only [wtn]); rfl))) | fail))
 refine Xaf _ _ (Xc2 rfl (RV.tmp _) (RV.tmp _) (XaK.mk' [] _ (XuZ _) (XaE.refl _ _) (VwL.refl _ _))) ?_
 exact ⟨rfl, rfl⟩
theorem Xqv (k : Int) : Xa8 Tryz.prog 57 [] [.x (.int .i64 k)] (fun r H' => r = .tup [.x (.string (bs (Xmx k))), .x (.string (bs (XgW k)))] ∧ H' = []) := by
 unfold Xmx XgW
 by_cases h : 1 ≤ k ∧ k ≤ 14
 ·rw [if_pos h, if_pos h]
  have := Xq4 k.toNat (by omega) (by omega)
  rwa [Int.toNat_of_nonneg (by omega)] at this
 ·rw [if_neg h, if_neg h]; exact Xsh k h
theorem Xk1 (k : Int) : (XgW k).length ≤ 2 := by
 unfold XgW
 split
 ·exact XkQ (by omega)
 ·simp
theorem XkM (k : Int) : (Xmx k).length ≤ 8 := by
 unfold Xmx
 split
 ·exact Xrw (by omega)
 ·simp
theorem Xfn (v : Int) (h0 : -9223372036854775808 ≤ v) (h1 : v ≤ 9223372036854775807) : (dcI v).length ≤ 21 := by
 unfold dcI
 split
 ·have := XbP (-v).toNat (by omega); simp; omega
 ·have := XbP v.toNat (by omega); omega
set_option maxRecDepth 100000 in
set_option maxHeartbeats 8000000 in
theorem Xto (e : EF) (he : EOk e) (wd fs : List UInt8) (hw : wd.length ≤ 8) (hfl : fs.length ≤ 2) (hf : Xa8 Tryz.prog 57 [] [.x (.int .i64 e.kind)] (fun r H' => r = .tup [.x (.string (bs wd)), .x (.string (bs fs))] ∧ H' = [])) : Xa8 Tryz.prog 39 [] [.agg e.cells] (fun r H' => r = .x (.string (bs (wd ++ Xb5 e fs ++ [10]))) ∧ H' = []) := by
 obtain ⟨e1, e2, e3, e4, e5, e6⟩ := he
 have q1 := XcH e.data
 have q2 := XbP e.time.toNat (by omega)
 have q3 := Xfn e.code e3.1 e3.2
 have q4 := Xfn e.client e5.1 e5.2
 have q5 := Xfn e.num e6.1 e6.2
 have hF := Lib.hid hf
 clear hf
 unfold EF.cells
 refine XaG Tryz.func39 rfl ?_
 simp only [Tryz.ntmps39, Xu2, Xu5, Xu6, Xu7, Xva, Xu9, Nat.reduceAdd, Nat.reduceSub]
 (repeat' (first | with_reducible (first | refine Xah ?_ | refine Xac ?_ | refine Xan ?_ | refine Xae ?_ | refine Xaa ?_) | ((apply Xad rfl); (case h => ((first | (apply Xab 0 rfl; (first | exact Xar _ rfl | exact Xao _ rfl)) | (apply Xab 2 rfl; (exact XaL _ _ _ _ rfl rfl rfl)) | (apply Xab 5 rfl; (exact Xal _ _ _ _ _ _ rfl rfl Xa6.out)) | (apply Xab 6 rfl; (exact XaA _ _ _ _ _ _ _ _ rfl rfl XaZ.out XaO.out (by first | exact XuY rfl | fail) (by first | exact XuY rfl | fail))) | (apply Xab 11 rfl; (exact Xaz 57 Tryz.f57 _ _ rfl rfl Tryz.func57 (by decide) rfl (VwL.refl _ _) (hF.out)))))); (case hT => ((try simp only [wtn]); rfl))) | (refine Xaj rfl ?_; (((refine Xaq 15 rfl ?_; ((refine Xbt _ _ rfl (by first | rfl | fail) (fun b => ?_))))); apply Xak; (case hT => ((try simp only [wtn]); rfl)); (case hH => ((try simp only [wtn]); rfl)))) | fail))
 apply XaT (S := Nat × List UInt8) (fun q => frm 73 [(1, .x (.pointer (some ⟨b, 0, none⟩))), (3, .x (.string (bs q.2))), (4, .x (.string (bs fs))), (5, .x (.int .i64 q.1))]) (fun _ => [.box b [.x (.int .i64 e.kind), .x (.string (bs e.job)), .x (.bool e.ok), .x (.int .i64 e.code), .sq e.data.length (u8a e.data), .x (.int .u64 e.time), .x (.int .i64 e.client), .x (.int .i64 e.num)]]) (fun q => q.1 ≤ fs.length ∧ q.2.length ≤ 8 + q.1 * 4100000 ∧ q.2 = wd ++ Xb5 e (fs.take q.1)) (fun q => fs.length - q.1) (0, wd)
 case h0 => exact (XaK.mk' [] _ (XuZ _) (XaE.refl _ _) (by (repeat' (first | exact VwL.nil | (refine VwL.cons ?_ ?_) | exact Vw.refl _ | exact Vw.top _ | fail))))
 case hi => exact ⟨Nat.zero_le _, by simp only; omega, by simp [Xb5]⟩
 rintro ⟨i, s⟩ ⟨hi, hs, hq⟩
 simp only at hi hs hq
 have hq' := Lib.hid hq
 clear hq
 simp only [frm, Xu6, Xu7, Xu0, Xu1, Xvd, Xve]
 by_cases hlt : i < fs.length
 ·have hfi : fs[i] = fs[i]?.getD 0 := by rw [List.getElem?_eq_getElem hlt]; rfl
  have hfi' := Lib.hid hfi
  clear hfi
  have hfin : ∀ X : List UInt8, XcA e fs[i] = X → X.length ≤ 4000010 → (s ++ [32] ++ X).length ≤ 8 + (i + 1) * 4100000 ∧ s ++ [32] ++ X = wd ++ Xb5 e (fs.take (i + 1)) := fun X hX hXl => by
   refine ⟨by simp only [Xvb, Xu2, Xu5]; omega, ?_⟩
   rw [hq'.out, Xa4 fs i hlt, ← hX]
   simp only [Xb5, List.flatMap_append, List.flatMap_cons, List.flatMap_nil, List.append_nil, List.append_assoc, Xva, Xu9]
  have hfin' := Lib.hid hfin
  clear hfin
  (repeat' (first | with_reducible (first | refine Xah ?_ | refine Xac ?_ | refine Xan ?_ | refine Xax ?_ | refine Xae ?_ | refine Xaa ?_ | refine Xag ?_) | (refine Xai _ rfl (fun h => ?_) (fun h => ?_) <;> ((try (simp only [whn] at h)); first | (exfalso; omega; done) | skip)) | ((apply Xad rfl); (case h => ((first | (apply Xab 0 rfl; (first | exact Xar _ rfl | exact Xao _ rfl)) | (apply Xab 5 rfl; (exact Xal _ _ _ _ _ _ rfl rfl Xa6.out)) | (apply Xab 6 rfl; (exact XaA _ _ _ _ _ _ _ _ rfl rfl XaZ.out XaO.out (by first | exact XuY rfl | fail) (by first | exact XuY rfl | fail))) | (apply Xab 8 rfl; (exact XaS _ _ _ _ _ _ _ rfl rfl rfl (by kernel_rfl) rfl (by omega))) | (apply Xab 11 rfl; (first | exact Xaz 69 Tryz.f69 _ _ rfl rfl Tryz.func69 (by decide) rfl (VwL.refl _ _) (Xkd e.data e2) | exact Xaz 70 Tryz.f70 _ _ rfl rfl Tryz.func70 (by decide) rfl (VwL.refl _ _) (XrH e.time e4.1 e4.2) | exact Xaz 71 Tryz.f71 _ _ rfl rfl Tryz.func71 (by decide) rfl (VwL.refl _ _) (Xkn e.code e3.1 e3.2) | exact Xaz 71 Tryz.f71 _ _ rfl rfl Tryz.func71 (by decide) rfl (VwL.refl _ _) (Xkn e.client e5.1 e5.2) | exact Xaz 71 Tryz.f71 _ _ rfl rfl Tryz.func71 (by decide) rfl (VwL.refl _ _) (Xkn e.num e6.1 e6.2))) | (apply Xab 12 rfl; (first | exact XbM _ _ 5 _ e.data rfl (by kernel_rfl) (by kernel_rfl) (by kernel_rfl) (Src.sq rfl) | exact Xbq _ _ _ _ rfl rfl rfl (by simp; omega))) | (apply XaF; (case hs => (intro _ _ h; cases h)); (case hx => rfl); (case hrun => (intro w; simp [wtb, AV.val, go_sem]; (try go_bits); rfl)))))); (case hT => ((try simp only [wtn]); rfl))) | fail))
  ·obtain ⟨z1, z2⟩ := hfin'.out e.job (by rw [hfi'.out, XcA, if_pos (by omega)]) (by omega)
   exact ⟨(i + 1, s ++ [32] ++ e.job), by simp only; omega, ⟨by simp only; omega, z1, z2⟩, (XaK.mk' [] _ (XuZ _) (XaE.refl _ _) (by (repeat' (first | exact VwL.nil | (refine VwL.cons ?_ ?_) | exact Vw.refl _ | exact Vw.top _ | fail))))⟩
  ·obtain ⟨z1, z2⟩ := hfin'.out [111, 107] (by rw [hfi'.out, XcA, if_neg (by omega), if_pos (by omega), if_pos (by assumption)]; rfl) (by simp)
   exact ⟨(i + 1, s ++ [32] ++ [111, 107]), by simp only; omega, ⟨by simp only; omega, z1, z2⟩, (XaK.mk' [] _ (XuZ _) (XaE.refl _ _) (by (repeat' (first | exact VwL.nil | (refine VwL.cons ?_ ?_) | exact Vw.refl _ | exact Vw.top _ | fail))))⟩
  ·obtain ⟨z1, z2⟩ := hfin'.out [102, 97, 105, 108, 101, 100] (by rw [hfi'.out, XcA, if_neg (by omega), if_pos (by omega), if_neg (by simp_all)]; rfl) (by simp)
   exact ⟨(i + 1, s ++ [32] ++ [102, 97, 105, 108, 101, 100]), by simp only; omega, ⟨by simp only; omega, z1, z2⟩, (XaK.mk' [] _ (XuZ _) (XaE.refl _ _) (by (repeat' (first | exact VwL.nil | (refine VwL.cons ?_ ?_) | exact Vw.refl _ | exact Vw.top _ | fail))))⟩
  ·obtain ⟨z1, z2⟩ := hfin'.out (Xc8 e.data) (by rw [hfi'.out, XcA, if_neg (by omega), if_neg (by omega), if_pos (by omega)]) (by omega)
   exact ⟨(i + 1, s ++ [32] ++ (Xc8 e.data)), by simp only; omega, ⟨by simp only; omega, z1, z2⟩, (XaK.mk' [] _ (XuZ _) (XaE.refl _ _) (by (repeat' (first | exact VwL.nil | (refine VwL.cons ?_ ?_) | exact Vw.refl _ | exact Vw.top _ | fail))))⟩
  ·obtain ⟨z1, z2⟩ := hfin'.out (XbT e.time.toNat) (by rw [hfi'.out, XcA, if_neg (by omega), if_neg (by omega), if_neg (by omega), if_pos (by omega)]) (by omega)
   exact ⟨(i + 1, s ++ [32] ++ (XbT e.time.toNat)), by simp only; omega, ⟨by simp only; omega, z1, z2⟩, (XaK.mk' [] _ (XuZ _) (XaE.refl _ _) (by (repeat' (first | exact VwL.nil | (refine VwL.cons ?_ ?_) | exact Vw.refl _ | exact Vw.top _ | fail))))⟩
  ·obtain ⟨z1, z2⟩ := hfin'.out (dcI e.code) (by rw [hfi'.out, XcA, if_neg (by omega), if_neg (by omega), if_neg (by omega), if_neg (by omega), if_pos (by omega)]) (by omega)
   exact ⟨(i + 1, s ++ [32] ++ (dcI e.code)), by simp only; omega, ⟨by simp only; omega, z1, z2⟩, (XaK.mk' [] _ (XuZ _) (XaE.refl _ _) (by (repeat' (first | exact VwL.nil | (refine VwL.cons ?_ ?_) | exact Vw.refl _ | exact Vw.top _ | fail))))⟩
  ·obtain ⟨z1, z2⟩ := hfin'.out (dcI e.client) (by rw [hfi'.out, XcA, if_neg (by omega), if_neg (by omega), if_neg (by omega), if_neg (by omega), if_neg (by omega), if_pos (by omega)]) (by omega)
   exact ⟨(i + 1, s ++ [32] ++ (dcI e.client)), by simp only; omega, ⟨by simp only; omega, z1, z2⟩, (XaK.mk' [] _ (XuZ _) (XaE.refl _ _) (by (repeat' (first | exact VwL.nil | (refine VwL.cons ?_ ?_) | exact Vw.refl _ | exact Vw.top _ | fail))))⟩
  ·obtain ⟨z1, z2⟩ := hfin'.out (dcI e.num) (by rw [hfi'.out, XcA, if_neg (by omega), if_neg (by omega), if_neg (by omega), if_neg (by omega), if_neg (by omega), if_neg (by omega)]) (by omega)
   exact ⟨(i + 1, s ++ [32] ++ (dcI e.num)), by simp only; omega, ⟨by simp only; omega, z1, z2⟩, (XaK.mk' [] _ (XuZ _) (XaE.refl _ _) (by (repeat' (first | exact VwL.nil | (refine VwL.cons ?_ ?_) | exact Vw.refl _ | exact Vw.top _ | fail))))⟩
 ·(repeat' (first | with_reducible (first | refine Xah ?_ | refine Xac ?_ | refine Xat ?_ | refine XaW ?_ | refine Xae ?_ | refine Xaa ?_ | refine XaM ?_ | refine XaI ?_) | (refine Xai _ rfl (fun h => ?_) (fun h => ?_) <;> ((try (simp only [whn] at h)); first | (exfalso; omega; done) | skip)) | ((apply Xad rfl); (case h => ((first | (apply Xab 0 rfl; (first | exact Xar _ rfl | exact Xao _ rfl)) | (apply Xab 12 rfl; (exact Xbq _ _ _ _ rfl rfl rfl (by simp; omega))) | (apply XaF; (case hs => (intro _ _ h; cases h)); (case hx => rfl); (case hrun => (intro w; simp [wtb, AV.val, go_sem]; skip; rfl)))))); (case hT => ((try simp only [wtn]); rfl))) | fail))
  refine Xaf _ _ (Xbl rfl (RV.tmp _) (XaK.mk' [_] [] (XuZ _) (XaE.refl _ _) (by first | exact VwL.refl _ _ | fail))) ?_
  have h := hq'.out
  rw [List.take_of_length_le (by omega)] at h
  exact ⟨by rw [← h]; rfl, rfl⟩
theorem Xty (e : EF) (he : EOk e) : Xa8 Tryz.prog 39 [] [.agg e.cells] (fun r H' => r = .x (.string (bs (Xeb e ++ [10]))) ∧ H' = []) := by
 rw [Xll]
 exact Xto e he _ _ (XkM _) (Xk1 _) (Xqv e.kind)
set_option maxRecDepth 100000 in
set_option maxHeartbeats 8000000 in
theorem XrI (a d : EF) : Xa8 Tryz.prog 29 [] [.agg a.cells, .agg d.cells] (fun r H' => r = .x (.bool (Xg4 a d)) ∧ H' = []) := by
 unfold EF.cells
 refine XaG Tryz.func29 rfl ?_
 simp only [Tryz.ntmps29, Xu2, Xu5, Xu6, Xu7, Xva, Xu9, Nat.reduceAdd, Nat.reduceSub]
 (repeat' (first | with_reducible (first | refine Xah ?_ | refine Xac ?_ | refine Xat ?_ | refine Xae ?_ | refine Xaa ?_) | ((first | apply Xad rfl | apply Xa7 _ _ rfl rfl rfl); (case h => ((try (intro (hp : (_ : Bool) = true); ((try simp only [Bool.and_eq_true] at hp); (try simp only [hp, wte]); (try simp only [whn] at hp)))); (first | (apply Xab 0 rfl; (first | exact Xar _ rfl | exact Xao _ rfl)) | (apply Xab 1 rfl; (exact Xbn _ _ _ _ _ rfl rfl rfl rfl)) | (apply Xab 5 rfl; (exact Xal _ _ _ _ _ _ rfl rfl Xa6.out)) | (apply Xab 6 rfl; (exact XaA _ _ _ _ _ _ _ _ rfl rfl XaZ.out XaO.out (by first | exact XuY rfl | fail) (by first | exact XuY rfl | fail))) | (apply Xab 12 rfl; (first | exact XbM _ _ 5 _ a.data rfl (by kernel_rfl) (by kernel_rfl) (by kernel_rfl) (Src.sq rfl) | exact XbM _ _ 5 _ d.data rfl (by kernel_rfl) (by kernel_rfl) (by kernel_rfl) (Src.sq rfl))) | (apply XaF; (case hs => (intro _ _ h; cases h)); (case hx => rfl); (case hrun => (intro w; simp [wtb, AV.val, go_sem]; skip; rfl)))))); (case hT => ((try simp only [wtn]); rfl))) | (refine Xaj rfl ?_; (((refine Xaq 15 rfl ?_; ((refine Xbt _ _ rfl (by first | rfl | fail) (fun b => ?_))))); apply Xak; (case hT => ((try simp only [wtn]); rfl)); (case hH => ((try simp only [wtn]); rfl)))) | fail))
 refine Xaf _ _ (Xbl rfl (RV.tmp _) (XaK.mk' [_, _] [] (XuZ _) XaE.nil (VwL.refl _ _))) ?_
 exact ⟨rfl, rfl⟩
set_option maxRecDepth 100000 in
set_option maxHeartbeats 8000000 in
theorem XoZ (a b : List EF) (ha : a.length ≤ 1000000) : Xa8 Tryz.prog 12 [] [.sq a.length (va a), .sq b.length (va b)] (fun r H' => r = .x (.bool (XgR a b)) ∧ H' = []) := by
 refine XaG Tryz.func12 rfl ?_
 simp only [Tryz.ntmps12, Xu2, Xu5, Xu6, Xu7, Xva, Xu9, Nat.reduceAdd, Nat.reduceSub]
 (repeat' (first | with_reducible (first | refine Xah ?_ | refine Xac ?_ | refine Xan ?_ | refine Xat ?_ | refine Xax ?_ | refine Xae ?_ | refine Xaa ?_ | refine Xaw ?_) | (refine Xai _ rfl (fun h => ?_) (fun h => ?_) <;> ((try (simp only [whn] at h)); skip)) | ((apply Xad rfl); (case h => ((first | (apply Xab 0 rfl; (first | exact Xar _ rfl | exact Xao _ rfl)) | (apply Xab 3 rfl; (exact XaX _ _ _ _ _ _ HEl.out rfl rfl)) | (apply XaF; (case hs => (intro _ _ h; cases h)); (case hx => rfl); (case hrun => (intro w; simp [wtb, AV.val, go_sem]; skip; rfl)))))); (case hT => ((try simp only [wtn]); rfl))) | fail))
 ·refine Xaf _ _ (Xbl rfl (RV.tmp _) (XaK.mk' [] [] (XuZ _) (XaE.refl _ _) (by first | exact VwL.refl _ _ | fail))) ?_
  exact ⟨by rw [show XgR a b = false by unfold XgR; rw [decide_eq_false (by omega)]; rfl]; rfl, rfl⟩
 have hlen : a.length = b.length := by omega
 apply XaT (S := Nat) (fun q => frm 27 [(0, .sq a.length (va a)), (1, .sq b.length (va b)), (5, .x (.int .i64 q))]) (fun _ => []) (fun q => q ≤ a.length ∧ (((a.take q).zip (b.take q)).all fun p => Xg4 p.1 p.2) = true) (fun q => a.length - q) 0
 case h0 => exact (XaK.mk' [] _ (XuZ _) (XaE.refl _ _) (by (repeat' (first | exact VwL.nil | (refine VwL.cons ?_ ?_) | exact Vw.refl _ | exact Vw.top _ | fail))))
 case hi => exact ⟨Nat.zero_le _, by simp⟩
 rintro i ⟨hi, ht⟩
 have ht' := Lib.hid ht
 clear ht
 simp only [frm, Xu6, Xu7, Xu0, Xu1, Xvd, Xve]
 by_cases hlt : i < a.length
 ·have hlt2 : i < b.length := by omega
  have hE := XrI a[i] b[i]
  have hd1 := XfQ a i hlt
  have hd2 := XfQ b i hlt2
  unfold EF.cells at hE
  (repeat' (first | with_reducible (first | refine Xah ?_ | refine Xac ?_ | refine Xan ?_ | refine Xat ?_ | refine Xax ?_ | refine Xae ?_ | refine Xb3 ?_ | refine Xaa ?_ | refine Xaw ?_ | refine Xag ?_ | refine Xav ?_) | (with_reducible refine Xbc Xbd ?_ ?_; (decide +kernel)) | (refine Xai _ rfl (fun h => ?_) (fun h => ?_) <;> ((try (simp only [whn] at h)); first | (exfalso; omega; done) | skip)) | ((first | apply Xad rfl | apply XbH rfl); (case h => ((first | (apply Xab 0 rfl; (first | exact Xar _ rfl | exact Xao _ rfl)) | (apply Xab 3 rfl; (exact XaX _ _ _ _ _ _ HEl.out rfl rfl)) | (apply Xab 6 rfl; (exact XaD _ _ _ _ _ rfl rfl XaO.out (by first | exact XuY rfl | fail) (by first | exact XuY rfl | fail))) | (apply Xab 7 rfl; (exact XaC _ _ _ _ _ _ _ _ _ _ rfl rfl rfl HEl.out rfl (by first | omega | fail) (by simp; first | omega | fail))) | (apply Xab 11 rfl; (exact Xaz 29 Tryz.f29 _ _ rfl rfl Tryz.func29 (by decide) rfl (VwL.refl _ _) (hE))) | (apply XaF; (case hs => (intro _ _ h; cases h)); (case hx => rfl); (case hrun => (intro w; simp [wtb, AV.val, go_sem]; (try go_bits); rfl)))))); (case hT => ((try simp (disch := omega) only [wtn, hd1, hd2, Xu3, Xu0, Xu1, Xu4, Xu8, Nat.reduceAdd, Nat.reduceMul, Nat.reduceSub, ↓reduceIte, Nat.reduceEqDiff]); rfl))) | fail))
  ·refine Xaf _ _ (Xbl rfl (RV.tmp _) (XaK.mk' [] [] (XuZ _) (XaE.refl _ _) (by first | exact VwL.refl _ _ | fail))) ?_
   exact ⟨by rw [Xqc hlt hlt2 (by assumption)]; rfl, rfl⟩
  ·exact ⟨i + 1, by omega, ⟨by omega, XlK hlt hlt2 ht'.out (by assumption)⟩, (XaK.mk' [] _ (XuZ _) (XaE.refl _ _) (by (repeat' (first | exact VwL.nil | (refine VwL.cons ?_ ?_) | exact Vw.refl _ | exact Vw.top _ | fail))))⟩
 ·(repeat' (first | with_reducible (first | refine Xah ?_ | refine Xac ?_ | refine Xat ?_ | refine XaW ?_ | refine Xae ?_ | refine Xaa ?_ | refine XaM ?_ | refine XaI ?_) | (refine Xai _ rfl (fun h => ?_) (fun h => ?_) <;> ((try (simp only [whn] at h)); first | (exfalso; omega; done) | skip)) | ((apply Xad rfl); (case h => ((first | (apply Xab 0 rfl; (first | exact Xar _ rfl | exact Xao _ rfl)) | (apply Xab 3 rfl; (exact XaX _ _ _ _ _ _ HEl.out rfl rfl)) | (apply XaF; (case hs => (intro _ _ h; cases h)); (case hx => rfl); (case hrun => (intro w; simp [wtb, AV.val, go_sem]; skip; rfl)))))); (case hT => ((try simp only [wtn]); rfl))) | fail))
  refine Xaf _ _ (Xbl rfl (RV.tmp _) (XaK.mk' [] [] (XuZ _) (XaE.refl _ _) (by first | exact VwL.refl _ _ | fail))) ?_
  have ht := ht'.out
  rw [List.take_of_length_le (by omega), List.take_of_length_le (by omega)] at ht
  exact ⟨by rw [show XgR a b = true by unfold XgR; rw [decide_eq_true hlen, ht]; rfl]; rfl, rfl⟩
theorem Xhv {x : List UInt8} {ts : List Tok} (h : lex x = .ok ts) : 1 ≤ ts.length ∧ ts.length ≤ 2001 ∧ (∀ t ∈ ts, Xpa t) ∧ ∀ t ∈ ts, t.text.length ≤ 70000 := by
 obtain ⟨p1, p2, -, -, p5⟩ := (Xdt x).2 ts h
 refine ⟨p1, p2, fun t ht hk => (Xhe x ts h).1 t ht hk, fun t ht => ?_⟩
 unfold lex at h
 split at h
 ·cases h
 ·obtain ⟨qs, e, -, -, -, hl⟩ := XfS _ _ _ _ _ (Nat.le_refl _) h
  have := hl t ht
  omega
theorem Xe2 {xs : List (List UInt8)} {i : Nat} (h : i < xs.length) (out : List EF) : cGo (xs.drop i) i out = match lex xs[i] with
  | .error _ => ([], i, 320)
  | .ok ts => if ts.length ≤ 1 then cGo (xs.drop (i + 1)) (i + 1) out else match Xcd ts.dropLast with
    | none => ([], i, 320)
    | some e => if 1000 ≤ out.length then ([], i, 1) else cGo (xs.drop (i + 1)) (i + 1) (out ++ [e]) := by
 rw [List.drop_eq_getElem_cons h, cGo]
 rfl
section
variable {xs : List (List UInt8)} {i : Nat} (h : i < xs.length) (out : List EF)
theorem Xri {f : Flt} (h1 : lex xs[i] = .error f) : cGo (xs.drop i) i out = ([], i, 320) := by rw [Xe2 h, h1]
theorem Xqj {ts : List Tok} (h1 : lex xs[i] = .ok ts) (h2 : ts.length ≤ 1) : cGo (xs.drop i) i out = cGo (xs.drop (i + 1)) (i + 1) out := by rw [Xe2 h, h1]; exact if_pos h2
theorem XpO {ts : List Tok} (h1 : lex xs[i] = .ok ts) (h2 : ¬ ts.length ≤ 1) (h3 : Xcd ts.dropLast = none) : cGo (xs.drop i) i out = ([], i, 320) := by rw [Xe2 h, h1]; simp only [if_neg h2, h3]
theorem XpQ {ts : List Tok} {e : EF} (h1 : lex xs[i] = .ok ts) (h2 : ¬ ts.length ≤ 1) (h3 : Xcd ts.dropLast = some e) (h4 : 1000 ≤ out.length) : cGo (xs.drop i) i out = ([], i, 1) := by rw [Xe2 h, h1]; simp only [if_neg h2, h3, if_pos h4]
theorem XtC {ts : List Tok} {e : EF} (h1 : lex xs[i] = .ok ts) (h2 : ¬ ts.length ≤ 1) (h3 : Xcd ts.dropLast = some e) (h4 : ¬ 1000 ≤ out.length) : cGo (xs.drop i) i out = cGo (xs.drop (i + 1)) (i + 1) (out ++ [e]) := by rw [Xe2 h, h1]; simp only [if_neg h2, h3, if_neg h4]
end
theorem Xo2 (l : List Tok) (k : Nat) : (ta l).take (k * 4) = ta (l.take k) := by
 induction l generalizing k with
 | nil => simp [ta]
 | cons t l ih =>
  cases k with
  | zero => simp [ta]
  | succ k =>
   have := ih k
   simp only [ta, List.flatMap_cons, List.take_succ_cons] at this ⊢
   rw [show (k + 1) * 4 = t.cells.length + k * 4 from by simp [Tok.cells]; omega, List.take_length_add_append, this]
theorem XmP (l : List EF) (e : EF) : va l ++ [.x (.int .i64 e.kind), .x (.string (bs e.job)), .x (.bool e.ok), .x (.int .i64 e.code), .sq e.data.length (u8a e.data), .x (.int .u64 e.time), .x (.int .i64 e.client), .x (.int .i64 e.num)] = va (l ++ [e]) := by
 rw [XoN]; simp [va, EF.cells]
set_option maxRecDepth 100000 in
set_option maxHeartbeats 8000000 in
theorem Xp9 (s : List UInt8) (h65 : 65536 < s.length) (hs : s.length ≤ 1000000) : Xa8 Tryz.prog 11 [] [.x (.string (bs s))] (fun r H' => r = XtR (XcP s) ∧ H' = []) := by
 have e : XcP s = ([], 0, 1) := if_pos h65
 rw [e]
 refine XaG Tryz.func11 rfl ?_
 simp only [Tryz.ntmps11, Xu2, Xu5, Xu6, Xu7, Xva, Xu9, Nat.reduceAdd, Nat.reduceSub]
 (repeat' (first | with_reducible (first | refine Xah ?_ | refine Xac ?_ | refine Xat ?_ | refine Xae ?_ | refine Xaa ?_ | refine Xaw ?_) | (refine Xai _ rfl (fun h => ?_) (fun h => ?_) <;> ((try (simp only [whn] at h)); first | (exfalso; omega; done) | skip)) | ((apply Xad rfl); (case h => ((first | (apply Xab 0 rfl; (first | exact Xar _ rfl | exact Xao _ rfl)) | (apply XaF; (case hs => (intro _ _ h; cases h)); (case hx => rfl); (case hrun => (intro w; simp [wtb, AV.val, go_sem]; skip; rfl)))))); (case hT => ((try simp only [wtn]); rfl))) | fail))
 refine Xaf _ _ (Xm1 rfl (RV.tmp _) (RV.tmp _) (RV.tmp _) (XaK.mk' [] _ (XuZ _) (XaE.refl _ _) (VwL.cons Vw.nil (VwL.refl _ _)))) ?_
 exact ⟨rfl, rfl⟩
set_option maxRecDepth 100000 in
set_option maxHeartbeats 8000000 in
theorem Xor (s : List UInt8) (hs : s.length ≤ 1000000) : Xa8 Tryz.prog 11 [] [.x (.string (bs s))] (fun r H' => r = XtR (XcP s) ∧ H' = []) := by
 by_cases h65 : 65536 < s.length
 ·exact Xp9 s h65 hs
 have e : XcP s = cGo (Xb4 s) 0 [] := if_neg h65
 rw [e]
 clear e
 have hL := Xss s (by omega)
 have hll := Xfu s []
 have hle := Lib.hid (XgC s [])
 unfold Xb4 at *
 generalize Xch [] s = xs at *
 refine XaG Tryz.func11 rfl ?_
 simp only [Tryz.ntmps11, Xu2, Xu5, Xu6, Xu7, Xva, Xu9, Nat.reduceAdd, Nat.reduceSub]
 refine XbA 41 8 ?_
 (repeat' (first | with_reducible (first | refine Xah ?_ | refine Xac ?_ | refine Xan ?_ | refine Xax ?_ | refine Xae ?_ | refine Xaa ?_) | (refine Xai _ rfl (fun h => ?_) (fun h => ?_) <;> ((try (simp only [whn] at h)); first | (exfalso; omega; done) | skip)) | ((apply Xad rfl); (case h => ((first | (apply Xab 0 rfl; (first | exact Xar _ rfl | exact Xao _ rfl)) | (apply Xab 11 rfl; (exact Xaz 26 Tryz.f26 _ _ rfl rfl Tryz.func26 (by decide) rfl (VwL.refl _ _) (hL))) | (apply XaF; (case hs => (intro _ _ h; cases h)); (case hx => rfl); (case hrun => (intro w; simp [wtb, AV.val, go_sem]; skip; rfl)))))); (case hT => ((try simp only [wtn]); rfl))) | fail))
 apply XaT (S := Nat × List EF × Option Addr × Nat) (fun q => frm 62 [(5, .x (.slice q.2.2.1 q.2.1.length q.2.2.2)), (6, .sq xs.length (sa xs)), (7, .x (.int .i64 q.1))]) (fun q => [.row q.2.2.1 q.2.1.length q.2.2.2 41 8 (va q.2.1)])
  (fun q => q.1 ≤ xs.length ∧ q.2.1.length ≤ q.1 ∧ cGo xs 0 [] = cGo (xs.drop q.1) q.1 q.2.1) (fun q => xs.length - q.1) (0, [], none, 0)
 case h0 => exact (XaK.mk' [] _ (XuZ _) (XaE.refl _ _) (by (repeat' (first | exact VwL.nil | (refine VwL.cons ?_ ?_) | exact Vw.refl _ | exact Vw.top _ | fail))))
 case hi => exact ⟨Nat.zero_le _, Nat.le_refl _, rfl⟩
 rintro ⟨i, out, ad0, cap0⟩ ⟨h1, h2, h3⟩
 simp only at h1 h2 h3
 have h3' := Lib.hid h3
 clear h3
 simp only [frm, Xu6, Xu7, Xu0, Xu1, Xvd, Xve]
 by_cases hlt : i < xs.length
 ·have hA := XsP xs[i] (by have := hle.out xs[i] (List.getElem_mem _); simp at this; omega)
  have hsd := Xds xs i hlt
  cases hlx : lex xs[i] with
  | error f =>
   have hc := (Xdt xs[i]).1 f hlx
   have hg := Lib.hid (Xri hlt out hlx)
   rw [hlx] at hA
   clear hlx
   simp only [XdZ, XhF, Flt.av] at hA
   have hc' : (f.code != 0) = true := bne_iff_ne.2 hc
   (repeat' (first | with_reducible (first | refine Xah ?_ | refine Xac ?_ | refine Xan ?_ | refine Xat ?_ | refine Xax ?_ | refine Xae ?_ | refine Xaa ?_ | refine Xaw ?_ | refine Xav ?_) | (refine Xai _ rfl (fun h => ?_) (fun h => ?_) <;> first | (exact absurd h (by decide)) | ((try (simp only [whn] at h)); first | (exfalso; omega; done) | skip)) | ((apply Xad rfl); (case h => ((first | (apply Xab 0 rfl; (first | exact Xar _ rfl | exact Xao _ rfl)) | (apply Xab 2 rfl; (exact XaL _ _ _ _ rfl rfl rfl)) | (apply Xab 3 rfl; (exact XaX _ _ _ _ _ _ HEl.out rfl rfl)) | (apply Xab 5 rfl; (exact Xal _ _ _ _ _ _ rfl rfl Xa6.out)) | (apply Xab 6 rfl; (first | exact XaD _ _ _ _ _ rfl rfl XaO.out (by first | exact XuY rfl | fail) (by first | exact XuY rfl | fail) | exact XaA _ _ _ _ _ _ _ _ rfl rfl XaZ.out XaO.out (by first | exact XuY rfl | fail) (by first | exact XuY rfl | fail))) | (apply Xab 7 rfl; (exact XaC _ _ _ _ _ _ _ _ _ _ rfl rfl rfl HEl.out rfl (by first | omega | fail) (by simp; first | omega | fail))) | (apply Xab 11 rfl; (exact Xaz 27 Tryz.f27 _ _ rfl rfl Tryz.func27 (by decide) rfl (VwL.refl _ _) (hA))) | (apply XaF; (case hs => (intro _ _ h; cases h)); (case hx => rfl); (case hrun => (intro w; simp [wtb, AV.val, go_sem]; skip; rfl)))))); (case hT => ((try simp (disch := omega) only [wtn, hc', hsd, Xu3, Xu0, Xu1, Xu4, Xu8, Nat.reduceAdd, Nat.reduceMul, Nat.reduceSub, ↓reduceIte, Nat.reduceEqDiff]); rfl))) | (refine Xaj rfl ?_; ((first | (refine Xaq 14 rfl ?_; ((refine XaN _ _ rfl Xbp.out rfl (fun b => ?_)))) | (refine Xaq 16 rfl ?_; ((refine Xau _ _ _ _ _ _ _ rfl rfl XaZ.out XaR.out (by first | rfl | fail) (by first | exact XuY rfl | fail) ?_)))); apply Xak; (case hT => ((try simp (disch := omega) only [wtn, hc', hsd, Xu3, Xu0, Xu1, Xu4, Xu8, Nat.reduceAdd, Nat.reduceMul, Nat.reduceSub, ↓reduceIte, Nat.reduceEqDiff]); rfl)); (case hH => ((try simp (disch := omega) only [wtn, hc', hsd, Xu3, Xu0, Xu1, Xu4, Xu8, Nat.reduceAdd, Nat.reduceMul, Nat.reduceSub, ↓reduceIte, Nat.reduceEqDiff]); rfl)))) | fail))
   refine Xaf _ _ (Xm1 rfl (RV.tmp _) (RV.tmp _) (RV.tmp _) (XaK.mk' [_, _] [] (XuZ _) XaE.nil (VwL.cons Vw.nil (VwL.refl _ _)))) ?_
   refine ⟨?_, rfl⟩
   rw [h3'.out, hg.out]
   rfl
  | ok ts =>
   obtain ⟨p1, p2, p3, p4⟩ := Xhv hlx
   rw [hlx] at hA
   simp only [XdZ, XhF, Flt.av] at hA
   obtain ⟨td, hd⟩ : ∃ td, td = ts.dropLast := ⟨_, rfl⟩
   have hdl : ts.length = td.length + 1 := by rw [hd]; simp; omega
   have hdt : (ta ts).take (td.length * 4) = ta td := by rw [Xo2, hd, List.dropLast_eq_take]; simp
   rw [hdl] at hA
   by_cases ht1 : td.length = 0
   ·have hg := Lib.hid (Xqj hlt out hlx (by omega))
    clear hlx hd p3 p4
    (repeat' (first | with_reducible (first | refine Xah ?_ | refine Xac ?_ | refine Xan ?_ | refine Xax ?_ | refine XaW ?_ | refine Xae ?_ | refine Xaa ?_ | refine XaM ?_ | refine XaI ?_) | (refine Xai _ rfl (fun h => ?_) (fun h => ?_) <;> first | (exact absurd h (by decide)) | ((try (simp only [whn] at h)); first | (exfalso; omega; done) | skip)) | ((apply Xad rfl); (case h => ((first | (apply Xab 0 rfl; (first | exact Xar _ rfl | exact Xao _ rfl)) | (apply Xab 2 rfl; (exact XaL _ _ _ _ rfl rfl rfl)) | (apply Xab 3 rfl; (exact XaX _ _ _ _ _ _ HEl.out rfl rfl)) | (apply Xab 5 rfl; (exact Xal _ _ _ _ _ _ rfl rfl Xa6.out)) | (apply Xab 6 rfl; (first | exact XaD _ _ _ _ _ rfl rfl XaO.out (by first | exact XuY rfl | fail) (by first | exact XuY rfl | fail) | exact XaA _ _ _ _ _ _ _ _ rfl rfl XaZ.out XaO.out (by first | exact XuY rfl | fail) (by first | exact XuY rfl | fail))) | (apply Xab 7 rfl; (exact XaC _ _ _ _ _ _ _ _ _ _ rfl rfl rfl HEl.out rfl (by first | omega | fail) (by simp; first | omega | fail))) | (apply Xab 9 rfl; (exact Xba _ _ _ _ _ _ _ _ _ _ rfl rfl HEl.out (by first | exact .inl ⟨rfl, rfl⟩ | fail) (by first | exact .inr ⟨_, _, rfl, rfl⟩ | fail) (by omega) (by omega))) | (apply Xab 11 rfl; (exact Xaz 27 Tryz.f27 _ _ rfl rfl Tryz.func27 (by decide) rfl (VwL.refl _ _) (hA))) | (apply XaF; (case hs => (intro _ _ h; cases h)); (case hx => rfl); (case hrun => (intro w; simp [wtb, AV.val, go_sem]; (try go_bits); rfl)))))); (case hT => ((try simp (disch := omega) only [wtn, hsd, hdt, Nat.sub_zero, Xu3, Xu0, Xu1, Xu4, Xu8, Nat.reduceAdd, Nat.reduceMul, Nat.reduceSub, ↓reduceIte, Nat.reduceEqDiff]); rfl))) | (refine Xaj rfl ?_; ((first | (refine Xaq 14 rfl ?_; ((refine XaN _ _ rfl Xbp.out rfl (fun b => ?_)))) | (refine Xaq 16 rfl ?_; ((refine Xau _ _ _ _ _ _ _ rfl rfl XaZ.out XaR.out (by first | rfl | fail) (by first | exact XuY rfl | fail) ?_)))); apply Xak; (case hT => ((try simp (disch := omega) only [wtn, hsd, hdt, Nat.sub_zero, Xu3, Xu0, Xu1, Xu4, Xu8, Nat.reduceAdd, Nat.reduceMul, Nat.reduceSub, ↓reduceIte, Nat.reduceEqDiff]); rfl)); (case hH => ((try simp (disch := omega) only [wtn, hsd, hdt, Nat.sub_zero, Xu3, Xu0, Xu1, Xu4, Xu8, Nat.reduceAdd, Nat.reduceMul, Nat.reduceSub, ↓reduceIte, Nat.reduceEqDiff]); rfl)))) | fail))
    exact ⟨(i + 1, out, ad0, cap0), by simp only; omega, ⟨by simp only; omega, by simp only; omega, by simp only; rw [h3'.out, hg.out]⟩, (XaK.mk' [_] [_] (XuZ _) (XaE.refl _ _) (by (repeat' (first | exact VwL.nil | (refine VwL.cons ?_ ?_) | exact Vw.refl _ | exact Vw.top _ | fail))))⟩
   ·have hE := XsD td (by omega) (by omega) (fun t ht => p3 t (by rw [hd, List.dropLast_eq_take] at ht; exact List.mem_of_mem_take ht)) (fun t ht => p4 t (by rw [hd, List.dropLast_eq_take] at ht; exact List.mem_of_mem_take ht))
    cases hev : Xcd td with
    | none =>
     have hg := Lib.hid (XpO hlt out hlx (by omega) (by rw [← hd]; exact hev))
     rw [hev] at hE
     clear hlx hd p3 p4 hev
     unfold XmH at hE
     (repeat' (first | with_reducible (first | refine Xah ?_ | refine Xac ?_ | refine Xan ?_ | refine Xat ?_ | refine Xax ?_ | refine Xae ?_ | refine Xaa ?_ | refine Xaw ?_ | refine Xav ?_) | (refine Xai _ rfl (fun h => ?_) (fun h => ?_) <;> first | (exact absurd h (by decide)) | ((try (simp only [whn] at h)); first | (exfalso; omega; done) | skip)) | ((apply Xad rfl); (case h => ((first | (apply Xab 0 rfl; (first | exact Xar _ rfl | exact Xao _ rfl)) | (apply Xab 2 rfl; (exact XaL _ _ _ _ rfl rfl rfl)) | (apply Xab 3 rfl; (exact XaX _ _ _ _ _ _ HEl.out rfl rfl)) | (apply Xab 5 rfl; (exact Xal _ _ _ _ _ _ rfl rfl Xa6.out)) | (apply Xab 6 rfl; (first | exact XaD _ _ _ _ _ rfl rfl XaO.out (by first | exact XuY rfl | fail) (by first | exact XuY rfl | fail) | exact XaA _ _ _ _ _ _ _ _ rfl rfl XaZ.out XaO.out (by first | exact XuY rfl | fail) (by first | exact XuY rfl | fail))) | (apply Xab 7 rfl; (exact XaC _ _ _ _ _ _ _ _ _ _ rfl rfl rfl HEl.out rfl (by first | omega | fail) (by simp; first | omega | fail))) | (apply Xab 9 rfl; (exact Xba _ _ _ _ _ _ _ _ _ _ rfl rfl HEl.out (by first | exact .inl ⟨rfl, rfl⟩ | fail) (by first | exact .inr ⟨_, _, rfl, rfl⟩ | fail) (by omega) (by omega))) | (apply Xab 11 rfl; (first | exact Xaz 27 Tryz.f27 _ _ rfl rfl Tryz.func27 (by decide) rfl (VwL.refl _ _) (hA) | exact Xaz 28 Tryz.f28 _ _ rfl rfl Tryz.func28 (by decide) rfl (VwL.refl _ _) (hE))) | (apply XaF; (case hs => (intro _ _ h; cases h)); (case hx => rfl); (case hrun => (intro w; simp [wtb, AV.val, go_sem]; (try go_bits); rfl)))))); (case hT => ((try simp (disch := omega) only [wtn, hsd, hdt, Nat.sub_zero, Xu3, Xu0, Xu1, Xu4, Xu8, Nat.reduceAdd, Nat.reduceMul, Nat.reduceSub, ↓reduceIte, Nat.reduceEqDiff]); rfl))) | (refine Xaj rfl ?_; ((first | (refine Xaq 14 rfl ?_; ((refine XaN _ _ rfl Xbp.out rfl (fun b => ?_)))) | (refine Xaq 16 rfl ?_; ((refine Xau _ _ _ _ _ _ _ rfl rfl XaZ.out XaR.out (by first | rfl | fail) (by first | exact XuY rfl | fail) ?_)))); apply Xak; (case hT => ((try simp (disch := omega) only [wtn, hsd, hdt, Nat.sub_zero, Xu3, Xu0, Xu1, Xu4, Xu8, Nat.reduceAdd, Nat.reduceMul, Nat.reduceSub, ↓reduceIte, Nat.reduceEqDiff]); rfl)); (case hH => ((try simp (disch := omega) only [wtn, hsd, hdt, Nat.sub_zero, Xu3, Xu0, Xu1, Xu4, Xu8, Nat.reduceAdd, Nat.reduceMul, Nat.reduceSub, ↓reduceIte, Nat.reduceEqDiff]); rfl)))) | fail))
     refine Xaf _ _ (Xm1 rfl (RV.tmp _) (RV.tmp _) (RV.tmp _) (XaK.mk' [_, _, _] [] (XuZ _) XaE.nil (VwL.cons Vw.nil (VwL.refl _ _)))) ?_
     refine ⟨?_, rfl⟩
     rw [h3'.out, hg.out]
     rfl
    | some e =>
     have hg1 := Lib.hid (XpQ hlt out hlx (by omega) (e := e) (by rw [← hd]; exact hev))
     have hg2 := Lib.hid (XtC hlt out hlx (by omega) (e := e) (by rw [← hd]; exact hev))
     rw [hev] at hE
     clear hlx hd p3 p4 hev
     unfold XmH EF.cells at hE
     (repeat' (first | with_reducible (first | refine Xah ?_ | refine Xac ?_ | refine Xan ?_ | refine Xat ?_ | refine Xax ?_ | refine Xae ?_ | refine Xaa ?_ | refine Xaw ?_ | refine Xag ?_ | refine Xav ?_) | (refine Xai _ rfl (fun h => ?_) (fun h => ?_) <;> first | (exact absurd h (by decide)) | ((try (simp only [whn] at h)); first | (exfalso; omega; done) | skip)) | ((apply Xad rfl); (case h => ((first | (apply Xab 0 rfl; (first | exact Xar _ rfl | exact Xao _ rfl)) | (apply Xab 2 rfl; (exact XaL _ _ _ _ rfl rfl rfl)) | (apply Xab 3 rfl; (exact XaX _ _ _ _ _ _ HEl.out rfl rfl)) | (apply Xab 5 rfl; (exact Xal _ _ _ _ _ _ rfl rfl Xa6.out)) | (apply Xab 6 rfl; (first | exact XaD _ _ _ _ _ rfl rfl XaO.out (by first | exact XuY rfl | fail) (by first | exact XuY rfl | fail) | exact XaA _ _ _ _ _ _ _ _ rfl rfl XaZ.out XaO.out (by first | exact XuY rfl | fail) (by first | exact XuY rfl | fail))) | (apply Xab 7 rfl; (exact XaC _ _ _ _ _ _ _ _ _ _ rfl rfl rfl HEl.out rfl (by first | omega | fail) (by simp; first | omega | fail))) | (apply Xab 9 rfl; (exact Xba _ _ _ _ _ _ _ _ _ _ rfl rfl HEl.out (by first | exact .inl ⟨rfl, rfl⟩ | fail) (by first | exact .inr ⟨_, _, rfl, rfl⟩ | fail) (by omega) (by omega))) | (apply Xab 11 rfl; (first | exact Xaz 27 Tryz.f27 _ _ rfl rfl Tryz.func27 (by decide) rfl (VwL.refl _ _) (hA) | exact Xaz 28 Tryz.f28 _ _ rfl rfl Tryz.func28 (by decide) rfl (VwL.refl _ _) (hE))) | (apply XaF; (case hs => (intro _ _ h; cases h)); (case hx => rfl); (case hrun => (intro w; simp [wtb, AV.val, go_sem]; (try go_bits); rfl)))))); (case hT => ((try simp (disch := omega) only [wtn, hsd, hdt, Nat.sub_zero, Xu3, Xu0, Xu1, Xu4, Xu8, Nat.reduceAdd, Nat.reduceMul, Nat.reduceSub, ↓reduceIte, Nat.reduceEqDiff]); rfl))) | (refine Xaj rfl ?_; ((first | (refine Xaq 13 rfl ?_; ((refine XaH _ _ _ _ _ _ _ _ _ _ _ _ _ _ rfl rfl XbD.out (Src.row _ rfl XbD.out) XaQ.out (by first | rfl | fail) (XcD _ _ (by omega) (by decide)) (fun ad cap => ?_)))) | (refine Xaq 14 rfl ?_; ((refine XaN _ _ rfl Xbp.out rfl (fun b => ?_)))) | (refine Xaq 16 rfl ?_; ((refine Xau _ _ _ _ _ _ _ rfl rfl XaZ.out XaR.out (by first | rfl | fail) (by first | exact XuY rfl | fail) ?_))) | (refine Xaq 17 rfl ?_; ((refine XaB _ _ _ _ _ _ _ _ rfl XaQ.out (by first | rfl | fail) rfl (by decide) rfl (fun b => ?_))))); apply Xak; (case hT => ((try simp (disch := omega) only [wtn, hsd, hdt, Nat.sub_zero, Xu3, Xu0, Xu1, Xu4, Xu8, Nat.reduceAdd, Nat.reduceMul, Nat.reduceSub, ↓reduceIte, Nat.reduceEqDiff]); rfl)); (case hH => ((try simp (disch := omega) only [wtn, hsd, hdt, Nat.sub_zero, Xu3, Xu0, Xu1, Xu4, Xu8, Nat.reduceAdd, Nat.reduceMul, Nat.reduceSub, ↓reduceIte, Nat.reduceEqDiff]); rfl)))) | fail))
     ·refine Xaf _ _ (Xm1 rfl (RV.tmp _) (RV.tmp _) (RV.tmp _) (XaK.mk' [_, _, _] [] (XuZ _) XaE.nil (VwL.cons Vw.nil (VwL.refl _ _)))) ?_
      refine ⟨?_, rfl⟩
      rw [h3'.out, hg1.out (by omega)]
      rfl
     ·refine ⟨(i + 1, out ++ [e], ad, cap), by simp only; omega, ⟨by simp only; omega, by simp only [Xvb, Xu2, Xu5]; omega, by simp only; rw [h3'.out, hg2.out (by omega)]⟩, ?_⟩
      simp only [Xvb, Xu2, Xu5, ← XmP]
      exact (XaK.mk' [_, _, _] [_] (XuZ _) (XaE.refl _ _) (by (repeat' (first | exact VwL.nil | (refine VwL.cons ?_ ?_) | exact Vw.refl _ | exact Vw.top _ | fail))))
 ·obtain rfl : i = xs.length := by omega
  have h3 := h3'.out
  rw [List.drop_length, cGo] at h3
  (repeat' (first | with_reducible (first | refine Xah ?_ | refine Xac ?_ | refine Xat ?_ | refine XaW ?_ | refine Xae ?_ | refine Xaa ?_ | refine XaM ?_ | refine XaI ?_) | (refine Xai _ rfl (fun h => ?_) (fun h => ?_) <;> first | (exact absurd h (by decide)) | ((try (simp only [] at h)); skip)) | ((apply Xad rfl); (case h => ((first | (apply Xab 0 rfl; (first | exact Xar _ rfl | exact Xao _ rfl)) | (apply Xab 3 rfl; (exact XaX _ _ _ _ _ _ HEl.out rfl rfl)) | (apply XaF; (case hs => (intro _ _ h; cases h)); (case hx => rfl); (case hrun => (intro w; simp [wtb, AV.val, go_sem]; skip; rfl)))))); (case hT => ((try simp only [wtn]); rfl))) | fail))
  refine Xaf _ _ (Xm1 rfl (RV.tmp _) (RV.tmp _) (RV.tmp _) (XaK.mk' [_] [] (XuZ _) XaE.nil (VwL.cons (Vw.row (List.Mem.head _) (VwL.refl _ _)) (VwL.refl _ _)))) ?_
  rw [h3]
  exact ⟨rfl, rfl⟩
end Go.Proofs.YtdpobjakdplljaaGreatDoor
