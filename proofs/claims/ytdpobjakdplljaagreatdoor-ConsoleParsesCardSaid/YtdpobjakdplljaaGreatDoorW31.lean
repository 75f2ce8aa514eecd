import Derived.Test.YtdpobjakdplljaaGreatDoorW30
import Derived.Test.YtdpobjakdplljaaGreatDoorW18
import Derived.Test.YtdpobjakdplljaaGreatDoorW19
/- The mill: events of a server. -/
set_option linter.unusedSimpArgs false
set_option linter.unusedVariables false
namespace Go.Proofs.YtdpobjakdplljaaGreatDoor
open Go.RowKit
def ck (v : Nat) : Int := if v = 0 then 13 else 12
theorem Xuy {m : Nat} {d : List UInt8} {c : Int} {v : Nat} (h1 : 0 ≤ c) (h2 : c ≤ 3) (hd : d.length ≤ m) (hv : v < 2) : SE m ⟨ck v, [], false, 0, d, 0, c, 0⟩ := by
 match v, hv with
 | 0, _ => exact XqJ h1 h2 hd rfl
 | 1, _ => exact Xe5 h1 h2 hd rfl
theorem VwL.appE {D : List Hp} : ∀ {a a' b b' : List AV}, VwL D a a' → VwL D b b' → VwL D (a ++ b) (a' ++ b')
 | _, _, _, _, .nil, h => h
 | _, _, _, _, .cons x y, h => .cons x (VwL.appE y h)
theorem XhM (out : List EF) (e : EF) : va (out ++ [e]) = va out ++ e.cells := by rw [XoN]; simp [va]
theorem Xt6 (out : List EF) (e d : EF) : va (out ++ [e, d]) = va out ++ (e.cells ++ d.cells) := by rw [XoN]; simp [va]
theorem XkE {v : Nat} (h : v < 2) : (List.drop v [.x (.int .i64 13), .x (.int .i64 12)]).getD 0 AV.top = .x (.int .i64 (ck v)) := by
 match v, h with
 | 0, _ | 1, _ => rfl
theorem XiO {p : EF → Prop} {out : List EF} {e : EF} (h : ∀ x ∈ out, p x) (he : p e) : ∀ x ∈ out ++ [e], p x := fun x hx => by
 rcases List.mem_append.1 hx with hx | hx
 ·exact h x hx
 ·rw [List.mem_singleton] at hx; subst hx; exact he
theorem Xre {p : EF → Prop} {out : List EF} {e d : EF} (h : ∀ x ∈ out, p x) (he : p e) (hd : p d) : ∀ x ∈ out ++ [e, d], p x := fun x hx => by
 rcases List.mem_append.1 hx with hx | hx
 ·exact h x hx
 ·rcases List.mem_cons.1 hx with rfl | hx
  ·exact he
  ·rw [List.mem_singleton] at hx; subst hx; exact hd
theorem Xm4 (out : List EF) (e : EF) : sw (out ++ [e]) = sw out + (4 * e.data.length + 40) := by simp [sw]
theorem XtF (out : List EF) (e d : EF) : sw (out ++ [e, d]) = sw out + (4 * e.data.length + 40) + (4 * d.data.length + 40) := by simp [sw]; omega
set_option maxRecDepth 100000 in
set_option maxHeartbeats 8000000 in
theorem XrU (bd : Nat) (l : List Int) (k n : Nat) (hd : DK l) (hk : k ≤ l.length) (hn : n ≤ 14) : Xa8 Tryz.prog 30 [.box bd [.sq l.length (ia l), .x (.int .i64 k)]] [.x (.pointer (some ⟨bd, 0, none⟩)), .x (.int .i64 n)] (fun r H' => ∃ (out : List EF) (k' : Nat), r = .sq out.length (va out) ∧ H' = [.box bd [.sq l.length (ia l), .x (.int .i64 k')]] ∧ k' ≤ l.length ∧ out.length ≤ 28 ∧ (∀ e ∈ out, SE 1111 e) ∧ sw out ≤ 64400) := by
 refine XaG Tryz.func30 rfl ?_
 simp only [Tryz.ntmps30, Xu2, Xu5, Xu6, Xu7, Xva, Xu9, Nat.reduceAdd, Nat.reduceSub]
 refine XbA 41 8 ?_
 (repeat' (first | with_reducible (first | refine Xah ?_ | refine Xac ?_ | refine Xan ?_ | refine Xae ?_ | refine Xaa ?_) | ((apply Xad rfl); (case h => ((first | (apply Xab 0 rfl; (first | exact Xar _ rfl | exact Xao _ rfl)) | (apply XaF; (case hs => (intro _ _ h; cases h)); (case hx => rfl); (case hrun => (intro w; simp [wtb, AV.val, go_sem]; (try go_bits); rfl)))))); (case hT => ((try simp (disch := omega) only [wtn, Xb2, Xu3, Xu0, Xu1, Xu4, Xu8, Nat.reduceAdd, Nat.reduceMul, Nat.reduceSub, ↓reduceIte, Nat.reduceEqDiff]); rfl))) | (refine Xaj rfl ?_; ((first | (refine Xaq 11 rfl ?_; ((refine Xam 43 Tryz.f43 [_] _ _ _ rfl rfl Tryz.func43 (by decide) rfl (Xvc (l₁ := [_, _])) (VwL.refl _ _) (XbC _ l k (n + 1) hd hk (by omega) (by omega)) ?_; rintro _ _ ⟨v0, k0, rfl, rfl, hv0, hk0⟩))) | (refine Xaq 14 rfl ?_; ((refine XaN _ _ rfl Xbp.out rfl (fun b => ?_)))) | (refine Xaq 16 rfl ?_; ((refine Xau _ _ _ _ _ _ _ rfl rfl XaZ.out XaR.out (by first | rfl | fail) (by first | exact XuY rfl | fail) ?_)))); apply Xak; (case hT => ((try simp (disch := omega) only [wtn, Xb2, Xu3, Xu0, Xu1, Xu4, Xu8, Nat.reduceAdd, Nat.reduceMul, Nat.reduceSub, ↓reduceIte, Nat.reduceEqDiff]); rfl)); (case hH => ((try simp (disch := omega) only [wtn, Xb2, Xu3, Xu0, Xu1, Xu4, Xu8, Nat.reduceAdd, Nat.reduceMul, Nat.reduceSub, ↓reduceIte, Nat.reduceEqDiff]); rfl)))) | fail))
 revert b
 intro bc
 apply XaT (S := Nat × Nat × Int × List EF × Option Addr × Nat) (fun q => frm 107 [(0, .x (.pointer (some ⟨bd, 0, none⟩))), (5, .x (.slice q.2.2.2.2.1 q.2.2.2.1.length q.2.2.2.2.2)), (6, .x (.pointer (some ⟨bc, 0, none⟩))), (7, .x (.int .i64 q.1))])
  (fun q => [.box bd [.sq l.length (ia l), .x (.int .i64 q.2.1)], .box bc [.x (.int .u64 q.2.2.1)], .row q.2.2.2.2.1 q.2.2.2.1.length q.2.2.2.2.2 41 8 (va q.2.2.2.1)])
  (fun q => q.1 ≤ 14 ∧ q.2.1 ≤ l.length ∧ (0 ≤ q.2.2.1 ∧ q.2.2.1 + 24 * q.1 ≤ 400) ∧ q.2.2.2.1.length + 2 * q.1 ≤ 28 ∧ (∀ e ∈ q.2.2.2.1, SE 1111 e) ∧ sw q.2.2.2.1 + q.1 * 4600 ≤ 64400) (fun q => q.1) (v0, k0, 0, [], none, 0)
 case h0 => exact XaK.mk' [] [.box bd _, .box bc _, .row _ _ _ _ _ _] (by (repeat' (first | exact XuZ _ | fail))) (XaE.refl _ _) (by (repeat' (first | exact VwL.nil | (refine VwL.cons ?_ ?_) | exact Vw.refl _ | exact Vw.top _ | fail)))
 case hi => exact ⟨by simp only; omega, hk0, ⟨by simp, by simp only; omega⟩, by simp; omega, by simp, by simp [sw]; omega⟩
 rintro ⟨m, kk, c, out, ad0, cap0⟩ ⟨g1, g2, g3, g4, g5, g6⟩
 simp only at g1 g2 g3 g4 g5 g6
 have g5' := Lib.hid g5
 have g6' := Lib.hid g6
 clear g5 g6
 simp only [frm, Xu6, Xu7, Xu0, Xu1, Xvd, Xve]
 by_cases hm : 0 < m
 ·(repeat' (first | with_reducible (first | refine Xah ?_ | refine Xac ?_ | refine Xan ?_ | refine Xax ?_ | refine Xae ?_ | refine Xaa ?_ | refine Xag ?_) | (refine Xai _ rfl (fun h => ?_) (fun h => ?_) <;> ((try (simp only [whn] at h)); first | (exfalso; omega; done) | skip)) | ((apply Xad rfl); (case h => ((first | (apply Xab 0 rfl; (first | exact Xar _ rfl | exact Xao _ rfl)) | (apply Xab 3 rfl; (exact XaX _ _ _ _ _ _ HEl.out rfl rfl)) | (apply Xab 10 rfl; (exact Xc4 _ _ _ _ rfl HPl.out (by decide) rfl (by simp [wtb, AV.one, Value.oneCell']))) | (apply Xab 17 rfl; (exact Xdv _ _ _ _ _ _ _ _ rfl XaQ.out (by first | rfl | fail) rfl (by decide) rfl)) | (apply XaF; (case hs => (intro _ _ h; cases h)); (case hx => rfl); (case hrun => (intro w; simp [wtb, AV.val, go_sem]; (try go_bits); rfl)))))); (case hT => ((try simp only [wtn, Xu0, Xu1, Nat.reduceAdd, Nat.reduceMul, ↓reduceIte]); rfl))) | (refine Xaj rfl ?_; ((first | (refine Xaq 11 rfl ?_; (first | (refine Xam 59 Tryz.f59 [_] _ _ _ rfl rfl Tryz.func59 (by decide) rfl (XuZ _) (VwL.refl _ _) (XcU _ l kk 0 3 hd g2 (by omega) (by omega)) ?_; rintro _ _ ⟨id, k1, rfl, rfl, hid1, hid2, hk1⟩) | (refine Xam 43 Tryz.f43 [_] _ _ _ rfl rfl Tryz.func43 (by decide) rfl (XuZ _) (VwL.refl _ _) (XbC _ l k1 8 hd hk1 (by omega) (by omega)) ?_; rintro _ _ ⟨w, k2, rfl, rfl, hw, hk2⟩) | (refine Xam 59 Tryz.f59 [_] _ _ _ rfl rfl Tryz.func59 (by decide) rfl (XuZ _) (VwL.refl _ _) (XcU _ l k2 1 8 hd hk2 (by omega) (by omega)) ?_; rintro _ _ ⟨v3, k3, rfl, rfl, hv3, hv3', hk3⟩) | (refine Xam 59 Tryz.f59 [_] _ _ _ rfl rfl Tryz.func59 (by decide) rfl (XuZ _) (VwL.refl _ _) (XcU _ l k3 1 24 hd hk3 (by omega) (by omega)) ?_; rintro _ _ ⟨v4, k4, rfl, rfl, hv4, hv4', hk4⟩) | (refine Xam 60 Tryz.f60 [] _ _ _ rfl rfl Tryz.func60 (by decide) rfl (XuZ _) (VwL.cons (Vw.aggx (by (repeat' (first | exact VwL.nil | (refine VwL.cons ?_ ?_) | exact Vw.refl _ | exact Vw.nil | fail)))) VwL.nil) (Xlj ⟨1, v3, v4, [], []⟩ (Xhx rfl hv3 hv3' hv4 hv4')) ?_; rintro _ _ ⟨fr, rfl, rfl, hf1, hf2⟩) | (refine Xam 61 Tryz.f61 [_] _ _ _ rfl rfl Tryz.func61 (by decide) rfl (XuZ _) (VwL.refl _ _) (XnA _ l k2 hd hk2) ?_; rintro _ _ ⟨cm, k3, rfl, rfl, hk3, hcm⟩) | (refine Xam 60 Tryz.f60 ([]) _ _ _ rfl rfl Tryz.func60 (by decide) rfl (XuZ _) (VwL.refl _ _) (Xlj cm hcm) ?_; rintro _ _ ⟨fr, rfl, rfl, hf1, hf2⟩) | (refine Xam 43 Tryz.f43 [_] _ _ _ rfl rfl Tryz.func43 (by decide) rfl (XuZ _) (VwL.refl _ _) (XbC _ l k3 fr.length hd hk3 (by omega) (by omega)) ?_; rintro _ _ ⟨v4, k4, rfl, rfl, hv4, hk4⟩) | (refine Xam 43 Tryz.f43 [_] _ _ _ rfl rfl Tryz.func43 (by decide) rfl (XuZ _) (VwL.refl _ _) (XbC _ l k2 300 hd hk2 (by omega) (by omega)) ?_; rintro _ _ ⟨v3, k3, rfl, rfl, hv3, hk3⟩) | (refine Xam 63 Tryz.f63 ([_, _]) _ _ _ rfl rfl Tryz.func63 (by decide) rfl (XuZ _) (VwL.refl _ _) (XrT bd bc l k2 c hd hk2 (by omega)) ?_; rintro _ _ ⟨e, k3, c3, rfl, rfl, hk3, hse, hc1, hc2⟩))) | (refine Xaq 13 rfl ?_; ((refine XaH _ _ _ _ _ _ _ _ _ _ _ _ _ _ rfl rfl XbD.out (Src.sq rfl) XaQ.out (by first | rfl | fail) (XcD _ _ (by omega) (by decide)) (fun ad cap => ?_))))); apply Xak; (case hT => ((try simp only [wtn]); rfl)); (case hH => ((try simp only [wtn, Nat.reduceAdd]); rfl)))) | fail))
  ·refine ⟨(m - 1, k2, c, out ++ [⟨11, [], false, 0, [], 0, id, 0⟩], ad, cap), by simp only; omega, ⟨by simp only; omega, by simp only; assumption, ⟨by simp only; omega, by simp only; omega⟩, by simp only [Xvb, Xu2, Xu5]; omega, XiO g5'.out (XoF (by omega) (by omega) rfl), by have := g6'.out; simp only [Xm4, Xu5]; omega⟩, ?_⟩
   simp only [Xvb, Xu2, Xu5, XhM, EF.cells]
   exact XaK.mk' [] [.box bd _, .box bc _, .row ad _ cap _ _ _] (by (repeat' (first | exact XuZ _ | fail))) (XaE.cons (VwH.refl _ _) (XaE.cons (VwH.refl _ _) (XaE.cons (VwH.row _ _ _ _ _ (VwL.appE (VwL.refl _ _) (by (repeat' (first | exact VwL.nil | (refine VwL.cons ?_ ?_) | exact Vw.refl _ | exact Vw.nil | fail))))) XaE.nil))) (by (repeat' (first | exact VwL.nil | (refine VwL.cons ?_ ?_) | exact Vw.refl _ | exact Vw.top _ | (refine Vw.eq ?_; (congr 3; omega)) | fail)))
  ·refine ⟨(m - 1, k4, c, out ++ [⟨11, [], false, 0, [], 0, id, 0⟩, ⟨12, [], false, 0, fr, 0, id, 0⟩], ad, cap), by simp only; omega, ⟨by simp only; omega, by simp only; assumption, ⟨by simp only; omega, by simp only; omega⟩, by simp only [Xvb, Xu2, Xu5]; omega, Xre g5'.out (XoF (by omega) (by omega) rfl) (Xe5 (by omega) (by omega) hf2 rfl), by have := g6'.out; simp only [XtF, Xu5]; omega⟩, ?_⟩
   simp only [Xvb, Xu2, Xu5, Xt6, EF.cells]
   exact XaK.mk' [] [.box bd _, .box bc _, .row ad _ cap _ _ _] (by (repeat' (first | exact XuZ _ | fail))) (XaE.cons (VwH.refl _ _) (XaE.cons (VwH.refl _ _) (XaE.cons (VwH.row _ _ _ _ _ (VwL.appE (VwL.refl _ _) (by (repeat' (first | exact VwL.nil | (refine VwL.cons ?_ ?_) | exact Vw.refl _ | exact Vw.nil | fail))))) XaE.nil))) (by (repeat' (first | exact VwL.nil | (refine VwL.cons ?_ ?_) | exact Vw.refl _ | exact Vw.top _ | (refine Vw.eq ?_; (congr 3; omega)) | fail)))
  ·refine ⟨(m - 1, k3, c, out ++ [⟨12, [], false, 0, fr, 0, id, 0⟩], ad, cap), by simp only; omega, ⟨by simp only; omega, by simp only; assumption, ⟨by simp only; omega, by simp only; omega⟩, by simp only [Xvb, Xu2, Xu5]; omega, XiO g5'.out (Xe5 (by omega) (by omega) hf2 rfl), by have := g6'.out; simp only [Xm4]; omega⟩, ?_⟩
   simp only [Xvb, Xu2, Xu5, XhM, EF.cells]
   exact XaK.mk' [] [.box bd _, .box bc _, .row ad _ cap _ _ _] (by (repeat' (first | exact XuZ _ | fail))) (XaE.cons (VwH.refl _ _) (XaE.cons (VwH.refl _ _) (XaE.cons (VwH.row _ _ _ _ _ (VwL.appE (VwL.refl _ _) (by (repeat' (first | exact VwL.nil | (refine VwL.cons ?_ ?_) | exact Vw.refl _ | fail))))) XaE.nil))) (by (repeat' (first | exact VwL.nil | (refine VwL.cons ?_ ?_) | exact Vw.refl _ | exact Vw.top _ | (refine Vw.eq ?_; (congr 3; omega)) | fail)))
  ·refine XcJ (B := []) (R := [_, _, _]) Xbd [0, 1, 2, 3, 4, 5, 6, 7, 8, 9, 10, 11, 12, 13] [12] [] none [] 0 (XuZ _) (by decide +kernel) rfl (fun i o h => by cases h) (by decide) ?_
   (repeat' (first | (apply Xcb rfl rfl; (case h => (intro H1; (try simp only [Xu9]); (first | (apply Xab 0 rfl; (first | exact Xar _ rfl | exact Xao _ rfl)) | (apply Xab 9 rfl; (exact Xba _ _ _ _ _ _ _ _ _ _ rfl rfl HEl.out (by first | exact .inl ⟨rfl, rfl⟩ | exact .inr ⟨_, _, rfl, rfl⟩ | fail) (by first | exact .inl ⟨rfl, rfl⟩ | exact .inr ⟨_, _, rfl, rfl⟩ | fail) (by omega) (by omega))) | (apply Xab 10 rfl; (exact XaU _ _ _ _ _ rfl HPl.out (by first | rfl | fail) rfl)) | (apply Xab 17 rfl; (exact Xdv _ _ _ _ _ _ _ _ rfl XaQ.out (by first | rfl | fail) rfl (by decide) rfl))))); (case hT => ((try simp (disch := omega) only [wtn, Xel, Xff, Nat.sub_zero, Xu3, Xu0, Xu1, Xu4, Xu8, Nat.reduceAdd, Nat.reduceMul, Nat.reduceSub, ↓reduceIte, Nat.reduceEqDiff]); rfl))) | (apply Xcu rfl rfl; ((refine Xaq 13 rfl ?_; ((refine XaH _ _ _ _ _ _ _ _ _ _ _ _ _ _ rfl rfl XbD.out (Src.sq rfl) XaQ.out (by first | rfl | fail) (XcD _ _ (by omega) (by decide)) (fun ad cap => ?_))))); refine ⟨_, rfl, ?_⟩; apply Xcv; (case hT => ((try simp (disch := omega) only [wtn, Xel, Xff, Nat.sub_zero, Xu3, Xu0, Xu1, Xu4, Xu8, Nat.reduceAdd, Nat.reduceMul, Nat.reduceSub, ↓reduceIte, Nat.reduceEqDiff]); rfl)); (case hH => ((try simp (disch := omega) only [wtn, Xel, Xff, Nat.sub_zero, Xu3, Xu0, Xu1, Xu4, Xu8, Nat.reduceAdd, Nat.reduceMul, Nat.reduceSub, ↓reduceIte, Nat.reduceEqDiff]); rfl))) | fail))
   (first | refine XbK ?_ | fail); (apply Xay; (case hT => rfl); (case hH => (simp only [Xu9]; rfl))); skip; refine Xa3 (by decide +kernel) ?_
   (repeat' (first | with_reducible (first | refine Xac ?_ | refine Xae ?_ | refine Xaa ?_ | refine Xag ?_) | ((apply Xad rfl); (case h => ((first | (apply Xab 0 rfl; (first | exact Xar _ rfl | exact Xao _ rfl)) | (apply XaF; (case hs => (intro _ _ h; cases h)); (case hx => rfl); (case hrun => (intro w; simp [wtb, AV.val, go_sem]; (try go_bits); rfl)))))); (case hT => ((try simp only [wtn]); rfl))) | fail))
   have e1 : (fr.take v4).length = v4 := by simp; omega
   have e2 : ((fr.drop v4).take (fr.length - v4)).length = fr.length - v4 := by simp
   refine ⟨(m - 1, k4, c, out ++ [⟨12, [], false, 0, fr.take v4, 0, id, 0⟩, ⟨12, [], false, 0, (fr.drop v4).take (fr.length - v4), 0, id, 0⟩], ad, cap), by simp only; omega, ⟨by simp only; omega, by simp only; assumption, ⟨by simp only; omega, by simp only; omega⟩, by simp only [Xvb, Xu2, Xu5]; omega, Xre g5'.out (Xe5 (by omega) (by omega) (by omega) rfl) (Xe5 (by omega) (by omega) (by omega) rfl), by have := g6'.out; simp only [XtF, e1, e2]; omega⟩, ?_⟩
   simp only [Xvb, Xu2, Xu5, Xt6, EF.cells, e1, e2]
   exact XaK.mk' [] [.box bd _, .box bc _, .row ad _ cap _ _ _] (by (repeat' (first | exact XuZ _ | fail))) (XaE.cons (VwH.refl _ _) (XaE.cons (VwH.refl _ _) (XaE.cons (VwH.row _ _ _ _ _ (VwL.appE (VwL.refl _ _) (by (repeat' (first | exact VwL.nil | (refine VwL.cons ?_ ?_) | exact Vw.refl _ | fail))))) XaE.nil))) (by (repeat' (first | exact VwL.nil | (refine VwL.cons ?_ ?_) | exact Vw.refl _ | exact Vw.top _ | (refine Vw.eq ?_; (congr 3; omega)) | fail)))
  ·refine ⟨(m - 1, k3, c, out ++ [⟨14, [], false, 0, [], 0, id, v3 - 5⟩], ad, cap), by simp only; omega, ⟨by simp only; omega, by simp only; assumption, ⟨by simp only; omega, by simp only; omega⟩, by simp only [Xvb, Xu2, Xu5]; omega, XiO g5'.out (XpP (by omega) (by omega) (by omega) (by omega) rfl), by have := g6'.out; simp only [Xm4, Xu5]; omega⟩, ?_⟩
   simp only [Xvb, Xu2, Xu5, XhM, EF.cells]
   exact XaK.mk' [] [.box bd _, .box bc _, .row ad _ cap _ _ _] (by (repeat' (first | exact XuZ _ | fail))) (XaE.cons (VwH.refl _ _) (XaE.cons (VwH.refl _ _) (XaE.cons (VwH.row _ _ _ _ _ (VwL.appE (VwL.refl _ _) (by (repeat' (first | exact VwL.nil | (refine VwL.cons ?_ ?_) | exact Vw.refl _ | exact Vw.nil | fail))))) XaE.nil))) (by (repeat' (first | exact VwL.nil | (refine VwL.cons ?_ ?_) | exact Vw.refl _ | exact Vw.top _ | (refine Vw.eq ?_; (congr 3; omega)) | fail)))
  ·refine XcJ (B := []) (R := [_, _, _]) Xbd [0, 1, 2, 6, 7, 3, 4, 5, 8, 9, 10, 11, 12] [3, 8, 11] [] none [] 0 (XuZ _) (by decide +kernel) rfl (fun i o h => by cases h) (by decide) ?_
   (repeat' (first | (apply Xcb rfl rfl; (case h => (intro H1; (try simp only [Xu9]); (first | (apply Xab 0 rfl; (first | exact Xar _ rfl | exact Xao _ rfl)) | (apply Xab 6 rfl; (exact XaD _ _ _ _ _ rfl rfl XaO.out (by first | (simp [wlq]; omega) | fail) (by first | (simp [wlq]; omega) | fail))) | (apply Xab 7 rfl; (exact XaC _ _ _ _ _ _ _ _ _ _ rfl rfl rfl HEl.out rfl (by first | omega | fail) (by simp; first | done | fail))) | (apply Xab 10 rfl; (exact XaU _ _ _ _ _ rfl HPl.out (by first | rfl | fail) rfl)) | (apply Xab 17 rfl; (first | exact XbN _ _ _ _ _ _ rfl XaQ.out rfl (by first | rfl | fail) rfl rfl (by decide) | exact Xdv _ _ _ _ _ _ _ _ rfl XaQ.out (by first | rfl | fail) rfl (by decide) rfl))))); (case hT => ((try simp (disch := assumption) only [wtn, XkE, Xu3, Xu0, Xu1, Xu4, Xu8, Nat.reduceAdd, Nat.reduceMul, Nat.reduceSub, ↓reduceIte, Nat.reduceEqDiff]); rfl))) | (apply Xcu rfl rfl; (first | (refine Xaq 11 rfl ?_; (first | (refine Xam 43 Tryz.f43 [_] _ _ _ rfl rfl Tryz.func43 (by decide) rfl (XuZ _) (VwL.refl _ _) (XbC _ l k2 2 hd hk2 (by omega) (by omega)) ?_; rintro _ _ ⟨v3, k3, rfl, rfl, hv3, hk3⟩) | (refine Xam 62 Tryz.f62 [_] _ _ _ rfl rfl Tryz.func62 (by decide) rfl (XuZ _) (VwL.refl _ _) (XhI _ l k3 hd hk3) ?_; rintro _ _ ⟨ou, k4, rfl, rfl, hou, hk4⟩))) | (refine Xaq 13 rfl ?_; ((refine XaH _ _ _ _ _ _ _ _ _ _ _ _ _ _ rfl rfl XbD.out (Src.sq rfl) XaQ.out (by first | rfl | fail) (XcD _ _ (by omega) (by decide)) (fun ad cap => ?_))))); refine ⟨_, rfl, ?_⟩; apply Xcv; (case hT => ((try simp (disch := omega) only [wtn, XkE, Xu3, Xu0, Xu1, Xu4, Xu8, Nat.reduceAdd, Nat.reduceMul, Nat.reduceSub, ↓reduceIte, Nat.reduceEqDiff]); rfl)); (case hH => ((try simp (disch := omega) only [wtn, XkE, Xu3, Xu0, Xu1, Xu4, Xu8, Nat.reduceAdd, Nat.reduceMul, Nat.reduceSub, ↓reduceIte, Nat.reduceEqDiff]); rfl))) | fail))
   (first | refine XbK ?_ | fail); (apply Xay; (case hT => rfl); (case hH => (simp only [Xu9]; rfl))); skip; refine Xa3 (by decide +kernel) ?_
   (repeat' (first | with_reducible (first | refine Xac ?_ | refine Xae ?_ | refine Xaa ?_ | refine Xag ?_) | ((apply Xad rfl); (case h => ((first | (apply Xab 0 rfl; (first | exact Xar _ rfl | exact Xao _ rfl)) | (apply XaF; (case hs => (intro _ _ h; cases h)); (case hx => rfl); (case hrun => (intro w; simp [wtb, AV.val, go_sem]; (try go_bits); rfl)))))); (case hT => ((try simp only [wtn]); rfl))) | fail))
   refine ⟨(m - 1, k4, c, out ++ [⟨ck v3, [], false, 0, ou, 0, id, 0⟩], ad, cap), by simp only; omega, ⟨by simp only; omega, by simp only; assumption, ⟨by simp only; omega, by simp only; omega⟩, by simp only [Xvb, Xu2, Xu5]; omega, XiO g5'.out (Xuy (by omega) (by omega) (by omega) hv3), by have := g6'.out; simp only [Xm4]; omega⟩, ?_⟩
   simp only [Xvb, Xu2, Xu5, XhM, EF.cells]
   exact XaK.mk' [] [.box bd _, .box bc _, .row ad _ cap _ _ _] (by (repeat' (first | exact XuZ _ | fail))) (XaE.cons (VwH.refl _ _) (XaE.cons (VwH.refl _ _) (XaE.cons (VwH.row _ _ _ _ _ (VwL.appE (VwL.refl _ _) (by (repeat' (first | exact VwL.nil | (refine VwL.cons ?_ ?_) | exact Vw.refl _ | fail))))) XaE.nil))) (by (repeat' (first | exact VwL.nil | (refine VwL.cons ?_ ?_) | exact Vw.refl _ | exact Vw.top _ | (refine Vw.eq ?_; (congr 3; omega)) | fail)))
  ·have hsd := hse.data
   refine ⟨(m - 1, k3, c3, out ++ [e], ad, cap), by simp only; omega, ⟨by simp only; omega, by simp only; assumption, ⟨by simp only; omega, by simp only; omega⟩, by simp only [Xvb, Xu2, Xu5]; omega, XiO g5'.out hse, by have := g6'.out; simp only [Xm4]; omega⟩, ?_⟩
   simp only [Xvb, Xu2, Xu5, XhM, EF.cells, List.drop_succ_cons, List.drop_zero, List.append_nil]
   exact XaK.mk' [] [.box bd _, .box bc _, .row ad _ cap _ _ _] (by (repeat' (first | exact XuZ _ | fail))) (XaE.cons (VwH.refl _ _) (XaE.cons (VwH.refl _ _) (XaE.cons (VwH.row _ _ _ _ _ (VwL.appE (VwL.refl _ _) (by (repeat' (first | exact VwL.nil | (refine VwL.cons ?_ ?_) | exact Vw.refl _ | fail))))) XaE.nil))) (by (repeat' (first | exact VwL.nil | (refine VwL.cons ?_ ?_) | exact Vw.refl _ | exact Vw.top _ | (refine Vw.eq ?_; (congr 3; omega)) | fail)))
 ·obtain rfl : m = 0 := by omega
  (repeat' (first | with_reducible (first | refine Xah ?_ | refine Xac ?_ | refine Xat ?_ | refine XaW ?_ | refine Xae ?_ | refine Xaa ?_ | refine XaM ?_ | refine XaI ?_) | (refine Xai _ rfl (fun h => ?_) (fun h => ?_) <;> first | (exact absurd h (by decide)) | ((try (simp only [] at h)); skip)) | ((apply Xad rfl); (case h => ((first | (apply Xab 0 rfl; (first | exact Xar _ rfl | exact Xao _ rfl)) | (apply XaF; (case hs => (intro _ _ h; cases h)); (case hx => rfl); (case hrun => (intro w; simp [wtb, AV.val, go_sem]; skip; rfl)))))); (case hT => ((try simp only [wtn]); rfl))) | fail))
  refine Xaf _ _ (Xbl rfl (RV.tmp _) (XaK.mk' [.row _ _ _ _ _ _, .box bc _] [.box bd _] (by (repeat' (first | exact XuZ _ | refine (Xvc (l₁ := [_])).trans (Xvf _ ?_) | refine (Xvc (l₁ := [_, _])).trans (Xvf _ ?_) | fail))) (XaE.refl _ _) (VwL.cons (Vw.row (List.Mem.head _) (VwL.refl _ _)) VwL.nil))) ⟨out, kk, rfl, rfl, g2, by omega, g5'.out, by have := g6'.out; omega⟩
set_option maxRecDepth 100000 in
set_option maxHeartbeats 8000000 in
theorem XkC (n : Nat) (h10 : n < 10) : Xa8 Tryz.prog 70 [] [.x (.int .u64 n)] (fun r H' => r = .x (.string (bs (XbT n))) ∧ H' = []) := by
 refine XaG Tryz.func70 rfl ?_
 simp only [Tryz.ntmps70, Xu2, Xu5, Xu6, Xu7, Xva, Xu9, Nat.reduceAdd, Nat.reduceSub]
 (repeat' (first | with_reducible (first | refine Xah ?_ | refine Xac ?_ | refine Xat ?_ | refine Xae ?_ | refine Xaa ?_ | refine Xaw ?_) | (refine Xai _ rfl (fun h => ?_) (fun h => ?_) <;> ((try (simp only [whn] at h)); first | (exfalso; omega; done) | skip)) | ((apply Xad rfl); (case h => ((first | (apply Xab 0 rfl; (first | exact Xar _ rfl | exact Xao _ rfl)) | (apply Xab 12 rfl; (exact XbM _ _ 5 _ [_] rfl (by kernel_rfl) (by kernel_rfl) (by kernel_rfl) (Src.chr 0 _ (by omega) (by omega) rfl rfl))) | (apply XaF; (case hs => (intro _ _ h; cases h)); (case hx => rfl); (case hrun => (intro w; simp [wtb, AV.val, go_sem]; (try go_bits); rfl)))))); (case hT => ((try simp only [wtn]); rfl))) | (refine Xaj rfl ?_; (((refine Xaq 17 rfl ?_; ((refine XaB _ _ _ _ _ _ _ _ rfl XaQ.out (by first | rfl | fail) rfl (by decide) rfl (fun b => ?_))))); apply Xak; (case hT => ((try simp only [wtn]); rfl)); (case hH => ((try simp only [wtn]); rfl)))) | fail))
 refine Xaf _ _ (Xbl rfl (RV.tmp _) (XaK.mk' [_] [] (XuZ _) (XaE.refl _ _) (by first | exact VwL.refl _ _ | fail))) ?_
 refine ⟨?_, rfl⟩
 rw [XbT, dif_pos h10]
 simp only [ev, List.getD_cons_succ, List.getD_cons_zero]
 congr 3
set_option maxRecDepth 100000 in
set_option maxHeartbeats 8000000 in
theorem Xm7 (n : Nat) (hn : n ≤ 18446744073709551615) (h10 : ¬ n < 10) (h1 : Xa8 Tryz.prog 70 [] [.x (.int .u64 (n / 10 : Nat))] (fun r H' => r = .x (.string (bs (XbT (n / 10)))) ∧ H' = []))
  (h2 : Xa8 Tryz.prog 70 [] [.x (.int .u64 (n % 10 : Nat))] (fun r H' => r = .x (.string (bs (XbT (n % 10)))) ∧ H' = [])) : Xa8 Tryz.prog 70 [] [.x (.int .u64 n)] (fun r H' => r = .x (.string (bs (XbT n))) ∧ H' = []) := by
 have hL1 := XbP (n / 10) (by omega)
 have hL2 := XbP (n % 10) (by omega)
 refine XaG Tryz.func70 rfl ?_
 simp only [Tryz.ntmps70, Xu2, Xu5, Xu6, Xu7, Xva, Xu9, Nat.reduceAdd, Nat.reduceSub]
 (repeat' (first | with_reducible (first | refine Xah ?_ | refine Xac ?_ | refine Xat ?_ | refine Xax ?_ | refine Xae ?_ | refine Xaa ?_) | (refine Xai _ rfl (fun h => ?_) (fun h => ?_) <;> ((try (simp only [whn] at h)); first | (exfalso; omega; done) | skip)) | ((apply Xad rfl); (case h => ((first | (apply Xab 0 rfl; (first | exact Xar _ rfl | exact Xao _ rfl)) | (apply Xab 11 rfl; (first | exact Xaz 70 Tryz.f70 _ _ rfl rfl Tryz.func70 (by decide) rfl (VwL.refl _ _) (h1) | exact Xaz 70 Tryz.f70 _ _ rfl rfl Tryz.func70 (by decide) rfl (VwL.refl _ _) (h2))) | (apply Xab 12 rfl; (exact Xbq _ _ _ _ rfl rfl rfl (by omega))) | (apply XaF; (case hs => (intro _ _ h; cases h)); (case hx => rfl); (case hrun => (intro w; simp [wtb, AV.val, go_sem]; (try go_bits); rfl)))))); (case hT => ((try simp (disch := omega) only [wtn, Xk9, Xlk, Xu3, Xu0, Xu1, Xu4, Xu8, Nat.reduceAdd, Nat.reduceMul, Nat.reduceSub, ↓reduceIte, Nat.reduceEqDiff]); rfl))) | fail))
 refine Xaf _ _ (Xbl rfl (RV.tmp _) (XaK.mk' [] _ (XuZ _) (XaE.refl _ _) (VwL.refl _ _))) ?_
 refine ⟨?_, rfl⟩
 conv => rhs; rw [XbT, dif_neg h10]
 rfl
theorem Xsd (n : Nat) (hn : n ≤ 18446744073709551615) : Xa8 Tryz.prog 70 [] [.x (.int .u64 n)] (fun r H' => r = .x (.string (bs (XbT n))) ∧ H' = []) := by
 induction n using Nat.strongRecOn with
 | _ n ih =>
  by_cases h10 : n < 10
  ·exact XkC n h10
  ·exact Xm7 n hn h10 (ih (n / 10) (by omega) (by omega)) (ih (n % 10) (by omega) (by omega))
theorem XrH (v : Int) (h0 : 0 ≤ v) (h1 : v ≤ 18446744073709551615) : Xa8 Tryz.prog 70 [] [.x (.int .u64 v)] (fun r H' => r = .x (.string (bs (XbT v.toNat))) ∧ H' = []) := by
 have := Xsd v.toNat (by omega)
 rwa [Int.toNat_of_nonneg h0] at this
set_option maxRecDepth 100000 in
set_option maxHeartbeats 8000000 in
theorem Xkv (n : Nat) (h10 : n < 10) : Xa8 Tryz.prog 71 [] [.x (.int .i64 n)] (fun r H' => r = .x (.string (bs (XbT n))) ∧ H' = []) := by
 refine XaG Tryz.func71 rfl ?_
 simp only [Tryz.ntmps71, Xu2, Xu5, Xu6, Xu7, Xva, Xu9, Nat.reduceAdd, Nat.reduceSub]
 (repeat' (first | with_reducible (first | refine Xah ?_ | refine Xac ?_ | refine Xan ?_ | refine Xat ?_ | refine Xae ?_ | refine Xaa ?_ | refine Xaw ?_ | refine Xav ?_) | (refine Xai _ rfl (fun h => ?_) (fun h => ?_) <;> first | (exact absurd h (by decide)) | ((try (simp only [whn] at h)); first | (exfalso; omega; done) | skip)) | ((apply Xdn rfl rfl rfl); (case hT => ((try simp only [wtn]); rfl))) | ((apply Xad rfl); (case h => ((first | (apply Xab 0 rfl; (first | exact Xar _ rfl | exact Xao _ rfl)) | (apply Xab 1 rfl; (exact XbE _ _ _ rfl rfl)) | (apply Xab 12 rfl; (exact XbM _ _ 5 _ [_] rfl (by kernel_rfl) (by kernel_rfl) (by kernel_rfl) (Src.chr 0 _ (by omega) (by omega) rfl rfl))) | (apply XaF; (case hs => (intro _ _ h; cases h)); (case hx => rfl); (case hrun => (intro w; simp [wtb, AV.val, go_sem]; (try go_bits); rfl)))))); (case hT => ((try simp only [wtn]); rfl))) | (refine Xaj rfl ?_; (((refine Xaq 17 rfl ?_; ((refine XaB _ _ _ _ _ _ _ _ rfl XaQ.out (by first | rfl | fail) rfl (by decide) rfl (fun b => ?_))))); apply Xak; (case hT => ((try simp only [wtn]); rfl)); (case hH => ((try simp only [wtn]); rfl)))) | fail))
 refine Xaf _ _ (Xbl rfl (RV.tmp _) (XaK.mk' [_] [] (XuZ _) (XaE.refl _ _) (by first | exact VwL.refl _ _ | fail))) ?_
 refine ⟨?_, rfl⟩
 rw [XbT, dif_pos h10]
 simp only [ev, List.getD_cons_succ, List.getD_cons_zero]
 congr 3
set_option maxRecDepth 100000 in
set_option maxHeartbeats 8000000 in
theorem XoW (n : Nat) (hn : n ≤ 9223372036854775807) (h10 : ¬ n < 10) (h1 : Xa8 Tryz.prog 71 [] [.x (.int .i64 (n / 10 : Nat))] (fun r H' => r = .x (.string (bs (XbT (n / 10)))) ∧ H' = []))
  (h2 : Xa8 Tryz.prog 71 [] [.x (.int .i64 (n % 10 : Nat))] (fun r H' => r = .x (.string (bs (XbT (n % 10)))) ∧ H' = [])) : Xa8 Tryz.prog 71 [] [.x (.int .i64 n)] (fun r H' => r = .x (.string (bs (XbT n))) ∧ H' = []) := by
 have hL1 := XbP (n / 10) (by omega)
 have hL2 := XbP (n % 10) (by omega)
 refine XaG Tryz.func71 rfl ?_
 simp only [Tryz.ntmps71, Xu2, Xu5, Xu6, Xu7, Xva, Xu9, Nat.reduceAdd, Nat.reduceSub]
 (repeat' (first | with_reducible (first | refine Xah ?_ | refine Xac ?_ | refine Xan ?_ | refine Xat ?_ | refine Xax ?_ | refine Xae ?_ | refine Xaa ?_ | refine Xag ?_) | (refine Xai _ rfl (fun h => ?_) (fun h => ?_) <;> first | (exact absurd h (by decide)) | ((try (simp only [whn] at h)); first | (exfalso; omega; done) | skip)) | ((apply Xdn rfl rfl rfl); (case hT => ((try simp (disch := omega) only [wtn, Xk9, Xlk, Xu3, Xu0, Xu1, Xu4, Xu8, Nat.reduceAdd, Nat.reduceMul, Nat.reduceSub, ↓reduceIte, Nat.reduceEqDiff]); rfl))) | ((apply Xad rfl); (case h => ((first | (apply Xab 0 rfl; (first | exact Xar _ rfl | exact Xao _ rfl)) | (apply Xab 1 rfl; (exact XbE _ _ _ rfl rfl)) | (apply Xab 11 rfl; (first | exact Xaz 71 Tryz.f71 _ _ rfl rfl Tryz.func71 (by decide) rfl (VwL.refl _ _) (h1) | exact Xaz 71 Tryz.f71 _ _ rfl rfl Tryz.func71 (by decide) rfl (VwL.refl _ _) (h2))) | (apply Xab 12 rfl; (exact Xbq _ _ _ _ rfl rfl rfl (by omega))) | (apply XaF; (case hs => (intro _ _ h; cases h)); (case hx => rfl); (case hrun => (intro w; simp [wtb, AV.val, go_sem]; (try go_bits); rfl)))))); (case hT => ((try simp (disch := omega) only [wtn, Xk9, Xlk, Xu3, Xu0, Xu1, Xu4, Xu8, Nat.reduceAdd, Nat.reduceMul, Nat.reduceSub, ↓reduceIte, Nat.reduceEqDiff]); rfl))) | fail))
 refine Xaf _ _ (Xbl rfl (RV.tmp _) (XaK.mk' [] _ (XuZ _) (XaE.refl _ _) (VwL.refl _ _))) ?_
 refine ⟨?_, rfl⟩
 conv => rhs; rw [XbT, dif_neg h10]
 rfl
theorem Xgg (n : Nat) (hn : n ≤ 9223372036854775807) : Xa8 Tryz.prog 71 [] [.x (.int .i64 n)] (fun r H' => r = .x (.string (bs (XbT n))) ∧ H' = []) := by
 induction n using Nat.strongRecOn with
 | _ n ih =>
  by_cases h10 : n < 10
  ·exact Xkv n h10
  ·exact XoW n hn h10 (ih (n / 10) (by omega) (by omega)) (ih (n % 10) (by omega) (by omega))
theorem Xrk (n : Nat) : Int.tdiv (-(n : Int)) 10 = -((n / 10 : Nat) : Int) := by rw [Int.neg_tdiv]; rfl
theorem Xrq (n : Nat) : Int.tmod (-(n : Int)) 10 = -((n % 10 : Nat) : Int) := by rw [Int.neg_tmod]; rfl
set_option maxRecDepth 100000 in
set_option maxHeartbeats 8000000 in
theorem XlB (n : Nat) (h1 : 1 ≤ n) (h9 : n ≤ 9) : Xa8 Tryz.prog 71 [] [.x (.int .i64 (-(n : Int)))] (fun r H' => r = .x (.string (bs (45 :: XbT n))) ∧ H' = []) := by
 have hL1 := XbP n (by omega)
 have hn := Xgg n (by omega)
 refine XaG Tryz.func71 rfl ?_
 simp only [Tryz.ntmps71, Xu2, Xu5, Xu6, Xu7, Xva, Xu9, Nat.reduceAdd, Nat.reduceSub]
 (repeat' (first | with_reducible (first | refine Xah ?_ | refine Xac ?_ | refine Xan ?_ | refine Xat ?_ | refine Xae ?_ | refine Xaa ?_ | refine Xaw ?_ | refine Xav ?_) | (refine Xai _ rfl (fun h => ?_) (fun h => ?_) <;> ((try (simp only [whn] at h)); first | (exfalso; omega; done) | skip)) | ((first | apply Xad rfl | apply Xa7 _ _ rfl rfl rfl); (case h => ((try (intro (hp : (_ : Bool) = true); ((try simp only [hp]); (try simp only [whn] at hp)))); (first | (apply Xab 0 rfl; (first | exact Xar _ rfl | exact Xao _ rfl)) | (apply Xab 1 rfl; (exact Xbn _ _ _ _ _ rfl rfl rfl rfl)) | (apply Xab 11 rfl; (exact Xaz 71 Tryz.f71 _ _ rfl rfl Tryz.func71 (by decide) rfl (VwL.refl _ _) (hn))) | (apply Xab 12 rfl; (exact Xbq _ _ _ _ rfl rfl rfl (by simp; omega))) | (apply XaF; (case hs => (intro _ _ h; cases h)); (case hx => rfl); (case hrun => (intro w; simp [wtb, AV.val, go_sem]; (try go_bits); rfl)))))); (case hT => ((try simp (disch := omega) only [wtn, Int.neg_neg, Xu3, Xu0, Xu1, Xu4, Xu8, Nat.reduceAdd, Nat.reduceMul, Nat.reduceSub, ↓reduceIte, Nat.reduceEqDiff]); rfl))) | fail))
 refine Xaf _ _ (Xbl rfl (RV.tmp _) (XaK.mk' [] _ (XuZ _) (XaE.refl _ _) (VwL.refl _ _))) ?_
 exact ⟨rfl, rfl⟩
set_option maxRecDepth 100000 in
set_option maxHeartbeats 8000000 in
theorem Xl7 (n : Nat) (h10 : 10 ≤ n) (hn : n ≤ 9223372036854775808) (h1 : Xa8 Tryz.prog 71 [] [.x (.int .i64 (-((n / 10 : Nat) : Int)))] (fun r H' => r = .x (.string (bs (45 :: XbT (n / 10)))) ∧ H' = [])) : Xa8 Tryz.prog 71 [] [.x (.int .i64 (-(n : Int)))] (fun r H' => r = .x (.string (bs (45 :: XbT n))) ∧ H' = []) := by
 have hL1 := XbP (n / 10) (by omega)
 have hL2 := XbP (n % 10) (by omega)
 have h2 := Xgg (n % 10) (by omega)
 refine XaG Tryz.func71 rfl ?_
 simp only [Tryz.ntmps71, Xu2, Xu5, Xu6, Xu7, Xva, Xu9, Nat.reduceAdd, Nat.reduceSub]
 (repeat' (first | with_reducible (first | refine Xah ?_ | refine Xac ?_ | refine Xan ?_ | refine Xat ?_ | refine Xae ?_ | refine Xaa ?_ | refine Xaw ?_ | refine Xav ?_) | (refine Xai _ rfl (fun h => ?_) (fun h => ?_) <;> ((try (simp only [whn] at h)); first | (exfalso; omega; done) | skip)) | ((first | apply Xad rfl | apply Xa7 _ _ rfl rfl rfl); (case h => ((try (intro (hp : (_ : Bool) = true); ((try simp only [hp]); (try simp only [whn] at hp)))); (first | (apply Xab 0 rfl; (first | exact Xar _ rfl | exact Xao _ rfl)) | (apply Xab 1 rfl; (exact Xbn _ _ _ _ _ rfl rfl rfl rfl)) | (apply Xab 11 rfl; (first | exact Xaz 71 Tryz.f71 _ _ rfl rfl Tryz.func71 (by decide) rfl (VwL.refl _ _) (h1) | exact Xaz 71 Tryz.f71 _ _ rfl rfl Tryz.func71 (by decide) rfl (VwL.refl _ _) (h2))) | (apply Xab 12 rfl; (exact Xbq _ _ _ _ rfl rfl rfl (by simp; omega))) | (apply XaF; (case hs => (intro _ _ h; cases h)); (case hx => rfl); (case hrun => (intro w; simp [wtb, AV.val, go_sem]; (try go_bits); rfl)))))); (case hT => ((try simp (disch := omega) only [wtn, Xrk, Xrq, Int.neg_neg, Xu3, Xu0, Xu1, Xu4, Xu8, Nat.reduceAdd, Nat.reduceMul, Nat.reduceSub, ↓reduceIte, Nat.reduceEqDiff]); rfl))) | fail))
 refine Xaf _ _ (Xbl rfl (RV.tmp _) (XaK.mk' [] _ (XuZ _) (XaE.refl _ _) (VwL.refl _ _))) ?_
 refine ⟨?_, rfl⟩
 conv => rhs; rw [XbT, dif_neg (show ¬ n < 10 by omega)]
 rfl
theorem XoQ (n : Nat) (h1 : 1 ≤ n) (hn : n ≤ 9223372036854775808) : Xa8 Tryz.prog 71 [] [.x (.int .i64 (-(n : Int)))] (fun r H' => r = .x (.string (bs (45 :: XbT n))) ∧ H' = []) := by
 induction n using Nat.strongRecOn with
 | _ n ih =>
  by_cases h9 : n ≤ 9
  ·exact XlB n h1 h9
  ·exact Xl7 n (by omega) hn (ih (n / 10) (by omega) (by omega) (by omega))
theorem Xkn (v : Int) (h0 : -9223372036854775808 ≤ v) (h1 : v ≤ 9223372036854775807) : Xa8 Tryz.prog 71 [] [.x (.int .i64 v)] (fun r H' => r = .x (.string (bs (dcI v))) ∧ H' = []) := by
 unfold dcI
 by_cases hv : v < 0
 ·rw [if_pos hv]
  have := XoQ (-v).toNat (by omega) (by omega)
  rwa [Int.toNat_of_nonneg (by omega), Int.neg_neg] at this
 ·rw [if_neg hv]
  have := Xgg v.toNat (by omega)
  rwa [Int.toNat_of_nonneg (by omega)] at this
end Go.Proofs.YtdpobjakdplljaaGreatDoor
