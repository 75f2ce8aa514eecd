import Derived.Test.YtdpobjakdplljaaGreatDoorW16
import Derived.Test.YtdpobjakdplljaaGreatDoorW17
import Derived.Test.YtdpobjakdplljaaGreatDoorW8
import Derived.Shelf.RegionOpenPlain
/- The reference of scripts: lines, forms, numbers, fields. -/
set_option linter.unusedSimpArgs false
set_option linter.unusedVariables false
namespace Go.Proofs.YtdpobjakdplljaaGreatDoor
open Go.RowKit
theorem Xo3 (s : List UInt8) (i m : Nat) (h : i < s.length) (hm : m ≤ i) : Xch ((s.take i).drop m) (s.drop i) = if s[i].toNat = 10 then (s.take i).drop m :: Xch [] (s.drop (i + 1)) else Xch ((s.take (i + 1)).drop m) (s.drop (i + 1)) := by
 rw [List.drop_eq_getElem_cons h, Xch]
 split
 ·rfl
 ·rw [List.take_succ_eq_append_getElem h, List.drop_append_of_le_length (by simp; omega)]
theorem XmR (l : List (List UInt8)) (x : List UInt8) : sa l ++ [.x (.string (bs x))] = sa (l ++ [x]) := by simp [sa]
set_option maxRecDepth 100000 in
set_option maxHeartbeats 8000000 in
theorem Xss (s : List UInt8) (hs : s.length ≤ 70000) : Xa8 Tryz.prog 26 [] [.x (.string (bs s))] (fun r H' => r = .sq (Xb4 s).length (sa (Xb4 s)) ∧ H' = []) := by
 refine XaG Tryz.func26 rfl ?_
 simp only [Tryz.ntmps26, Xu2, Xu5, Xu6, Xu7, Xva, Xu9, Nat.reduceAdd, Nat.reduceSub]
 refine XbA 9 1 ?_
 (repeat' (first | with_reducible (first | refine Xah ?_ | refine Xac ?_ | refine Xan ?_ | refine Xae ?_ | refine Xaa ?_) | ((apply Xad rfl); (case h => (((apply Xab 0 rfl; (exact Xao _ rfl))))); (case hT => ((try simp only [wtn]); rfl))) | fail))
 apply XaT (S := Nat × Nat × List (List UInt8) × Option Addr × Nat) (fun q => frm 36 [(0, .x (.string (bs s))), (3, .x (.slice q.2.2.2.1 q.2.2.1.length q.2.2.2.2)), (4, .x (.int .i64 q.2.1)), (5, .x (.int .i64 q.1))]) (fun q => [.row q.2.2.2.1 q.2.2.1.length q.2.2.2.2 9 1 (sa q.2.2.1)])
  (fun q => q.1 ≤ s.length ∧ q.2.1 ≤ q.1 ∧ q.2.2.1.length ≤ q.1 ∧ Xb4 s = q.2.2.1 ++ Xch ((s.take q.1).drop q.2.1) (s.drop q.1)) (fun q => s.length - q.1) (0, 0, [], none, 0)
 case h0 => exact (XaK.mk' [] _ (XuZ _) (XaE.refl _ _) (by (repeat' (first | exact VwL.nil | (refine VwL.cons ?_ ?_) | exact Vw.refl _ | exact Vw.top _ | fail))))
 case hi => exact ⟨Nat.zero_le _, Nat.le_refl _, Nat.zero_le _, by simp [Xb4]⟩
 rintro ⟨i, m, out, ad0, cap0⟩ ⟨h1, h2, h3, h4⟩
 simp only at h1 h2 h3 h4
 have h4' := Lib.hid h4
 clear h4
 simp only [frm, Xu6, Xu7, Xu0, Xu1, Xvd, Xve]
 by_cases hlt : i < s.length
 ·have hg := Lib.hid (Xo3 s i m hlt h2)
  (repeat' (first | with_reducible (first | refine Xah ?_ | refine Xac ?_ | refine Xan ?_ | refine Xax ?_ | refine Xae ?_ | refine Xaa ?_ | refine Xag ?_) | (refine Xai _ rfl (fun h => ?_) (fun h => ?_) <;> ((try (simp only [whn] at h)); first | (exfalso; omega; done) | skip)) | ((apply Xad rfl); (case h => ((first | (apply Xab 0 rfl; (first | exact Xar _ rfl | exact Xao _ rfl)) | (apply Xab 8 rfl; (exact XaS _ _ _ _ _ _ _ rfl rfl rfl (by kernel_rfl) rfl (by omega))) | (apply Xab 9 rfl; (exact Xa0 _ _ _ _ _ _ _ rfl rfl (by kernel_rfl) (by first | exact .inr ⟨_, _, rfl, rfl⟩ | fail) (by first | exact .inr ⟨_, _, rfl, rfl⟩ | fail) (by omega) (by omega))) | (apply XaF; (case hs => (intro _ _ h; cases h)); (case hx => rfl); (case hrun => (intro w; simp [wtb, AV.val, go_sem]; (try go_bits); rfl)))))); (case hT => ((try simp only [wtn]); rfl))) | (refine Xaj rfl ?_; ((first | (refine Xaq 13 rfl ?_; ((refine XaH _ _ _ _ _ _ _ _ _ _ _ _ _ _ rfl rfl XbD.out (Src.row _ rfl XbD.out) XaQ.out (by first | rfl | fail) (XcD _ _ (by omega) (by decide)) (fun ad cap => ?_)))) | (refine Xaq 17 rfl ?_; ((refine XaB _ _ _ _ _ _ _ _ rfl XaQ.out (by first | rfl | fail) rfl (by decide) rfl (fun b => ?_))))); apply Xak; (case hT => ((try simp only [wtn]); rfl)); (case hH => ((try simp only [wtn]); rfl)))) | fail))
  ·have hb : s[i].toNat = 10 := by rw [List.getElem?_eq_getElem hlt] at h; simp only [Option.getD_some] at h; omega
   have hg := hg.out
   rw [if_pos hb] at hg
   refine ⟨(i + 1, i + 1, out ++ [(s.take i).drop m], ad, cap), by simp only; omega, ⟨by simp only; omega, by simp only; omega, by simp only [Xvb, Xu2, Xu5]; omega, ?_⟩, ?_⟩
   ·simp only
    have e0 : (s.take (i + 1)).drop (i + 1) = [] := List.drop_of_length_le (by simp; omega)
    rw [h4'.out, hg, e0, List.append_assoc]; rfl
   ·simp only [Xvb, Xu2, Xu5, ← XmR]
    exact (XaK.mk' [_] [_] (XuZ _) (XaE.refl _ _) (by (repeat' (first | exact VwL.nil | (refine VwL.cons ?_ ?_) | exact Vw.refl _ | exact Vw.top _ | fail))))
  ·have hb : ¬ s[i].toNat = 10 := by rw [List.getElem?_eq_getElem hlt] at h; simp only [Option.getD_some] at h; omega
   have hg := hg.out
   rw [if_neg hb] at hg
   exact ⟨(i + 1, m, out, ad0, cap0), by simp only; omega, ⟨by simp only; omega, by simp only; omega, by simp only; omega, by simp only; rw [h4'.out, hg]⟩, (XaK.mk' [] _ (XuZ _) (XaE.refl _ _) (by (repeat' (first | exact VwL.nil | (refine VwL.cons ?_ ?_) | exact Vw.refl _ | exact Vw.top _ | fail))))⟩
 ·obtain rfl : i = s.length := by omega
  have h4 := h4'.out
  rw [List.drop_length, List.take_length, Xch] at h4
  (repeat' (first | with_reducible (first | refine Xah ?_ | refine Xac ?_ | refine Xat ?_ | refine Xax ?_ | refine XaW ?_ | refine Xae ?_ | refine Xaa ?_ | refine XaM ?_ | refine XaI ?_) | (refine Xai _ rfl (fun h => ?_) (fun h => ?_) <;> first | (exact absurd h (by decide)) | ((try (simp only [whn] at h)); skip)) | ((apply Xad rfl); (case h => ((first | (apply Xab 0 rfl; (first | exact Xar _ rfl | exact Xao _ rfl)) | (apply Xab 9 rfl; (exact Xa0 _ _ _ _ _ _ _ rfl rfl (by kernel_rfl) (by first | exact .inr ⟨_, _, rfl, rfl⟩ | fail) (by first | exact .inl ⟨rfl, rfl⟩ | fail) (by omega) (by omega))) | (apply XaF; (case hs => (intro _ _ h; cases h)); (case hx => rfl); (case hrun => (intro w; simp [wtb, AV.val, go_sem]; skip; rfl)))))); (case hT => ((try simp only [wtn]); rfl))) | (refine Xaj rfl ?_; ((first | (refine Xaq 13 rfl ?_; ((refine XaH _ _ _ _ _ _ _ _ _ _ _ _ _ _ rfl rfl XbD.out (Src.row _ rfl XbD.out) XaQ.out (by first | rfl | fail) (XcD _ _ (by omega) (by decide)) (fun ad cap => ?_)))) | (refine Xaq 17 rfl ?_; ((refine XaB _ _ _ _ _ _ _ _ rfl XaQ.out (by first | rfl | fail) rfl (by decide) rfl (fun b => ?_))))); apply Xak; (case hT => ((try simp only [wtn]); rfl)); (case hH => ((try simp only [wtn]); rfl)))) | fail))
  ·refine Xaf _ _ (Xbl rfl (RV.tmp _) (XaK.mk' [_, _] [] (XuZ _) XaE.nil (VwL.cons (Vw.row (List.Mem.tail _ (List.Mem.head _)) (VwL.refl _ _)) VwL.nil))) ?_
   rw [if_neg (by intro e; have := congrArg List.length e; simp at this; omega)] at h4
   rw [h4]
   simp only [List.take_length, Xvb, Xu2, Xu5, ← XmR]
   first | trivial | fail
  ·refine Xaf _ _ (Xbl rfl (RV.tmp _) (XaK.mk' [_] [] (XuZ _) XaE.nil (VwL.cons (Vw.row (List.Mem.head _) (VwL.refl _ _)) VwL.nil))) ?_
   rw [if_pos (List.drop_of_length_le (by omega)), List.append_nil] at h4
   rw [h4]
   exact ⟨rfl, rfl⟩
def Xpa (t : Tok) : Prop := t.kind = 2 → t.text.length ≤ 18 ∧ Xex t.text
theorem Xk4 {t : Tok} (h : Xpa t) (hk : t.kind = 2) : 0 ≤ Xdm t.text ∧ Xdm t.text < 1000000000000000000 := by
 obtain ⟨h1, h2⟩ := h hk
 have := XjE t.text h2 t.text.length (Nat.le_refl _)
 rw [List.take_length] at this
 have hpw := Nat.pow_le_pow_right (n := 10) (by decide) h1
 generalize 10 ^ t.text.length = p at this hpw
 omega
def Xuh (t : Tok) (most : Int) : AV := if t.kind = 2 then .tup [.x (.int .u64 (Xdm t.text)), .x (.bool (decide (Xdm t.text ≤ most)))] else .tup [.x (.int .u64 0), .x (.bool false)]
set_option maxRecDepth 100000 in
set_option maxHeartbeats 8000000 in
theorem XfX (t : Tok) (most : Int) (hN : Xpa t) : Xa8 Tryz.prog 96 [] [t.av, .x (.int .u64 most)] (fun r H' => r = Xuh t most ∧ H' = []) := by
 unfold Tok.av Xuh
 have hN' := Lib.hid hN
 clear hN
 refine XaG Tryz.func96 rfl ?_
 simp only [Tryz.ntmps96, Xu2, Xu5, Xu6, Xu7, Xva, Xu9, Nat.reduceAdd, Nat.reduceSub]
 (repeat' (first | with_reducible (first | refine Xah ?_ | refine Xac ?_ | refine Xan ?_ | refine Xat ?_ | refine Xax ?_ | refine Xae ?_ | refine Xaa ?_ | refine Xaw ?_) | (refine Xai _ rfl (fun h => ?_) (fun h => ?_) <;> ((try (simp only [whn] at h)); skip)) | ((apply Xad rfl); (case h => ((first | (apply Xab 0 rfl; (exact Xao _ rfl)) | (apply Xab 5 rfl; (exact Xal _ _ _ _ _ _ rfl rfl Xa6.out)) | (apply Xab 6 rfl; (exact XaA _ _ _ _ _ _ _ _ rfl rfl XaZ.out XaO.out (by first | exact XuY rfl | fail) (by first | exact XuY rfl | fail))) | (apply XaF; (case hs => (intro _ _ h; cases h)); (case hx => rfl); (case hrun => (intro w; simp [wtb, AV.val, go_sem]; skip; rfl)))))); (case hT => ((try simp only [wtn]); rfl))) | (refine Xaj rfl ?_; (((refine Xaq 15 rfl ?_; ((refine Xbt _ _ rfl (by first | rfl | fail) (fun b => ?_))))); apply Xak; (case hT => ((try simp only [wtn]); rfl)); (case hH => ((try simp only [wtn]); rfl)))) | fail))
 ·refine Xaf _ _ (Xc2 rfl (RV.tmp _) (RV.tmp _) (XaK.mk' [_] [] (XuZ _) XaE.nil (VwL.refl _ _))) ?_
  exact ⟨by rw [if_neg h]; rfl, rfl⟩
 obtain ⟨hl18, hdig⟩ := hN'.out h
 have hdig' := Lib.hid hdig
 clear hdig hN'
 refine XaT (S := Nat) (fun i => frm 31 [(1, .x (.int .u64 most)), (2, .x (.pointer (some ⟨b, 0, none⟩))), (6, .x (.int .u64 (Xdm (t.text.take i)))), (7, .x (.int .i64 i))]) (fun _ => [.box b [.x (.int .i64 t.kind), .x (.string (bs t.text)), .x (.int .i64 (t.line : Nat)), .x (.int .i64 (t.col : Nat))]]) (fun i => i ≤ t.text.length) (fun i => t.text.length - i) 0 (XaK.mk' [] _ (XuZ _) (XaE.refl _ _) (by (repeat' (first | exact VwL.nil | (refine VwL.cons ?_ ?_) | exact Vw.refl _ | exact Vw.top _ | fail)))) (Nat.zero_le _) fun i hs => ?_
 have hv1 := XjE t.text hdig'.out i hs
 have hpw := Nat.pow_le_pow_right (n := 10) (by decide) (show i ≤ 18 by omega)
 generalize 10 ^ i = p at hv1 hpw
 have hv2 : Xdm (t.text.take i) < 1000000000000000000 := by omega
 have hv3 := hv1.1
 clear hv1 hpw
 generalize hnv : Xdm (t.text.take i) = nv at hv2 hv3 ⊢
 have hnv' := Lib.hid hnv
 clear hnv
 have hk2 := Lib.hid h
 clear h
 simp only [frm, Xu6, Xu7, Xu0, Xu1, Xvd, Xve]
 (repeat' (first | with_reducible (first | refine Xah ?_ | refine Xac ?_ | refine Xan ?_ | refine Xat ?_ | refine Xax ?_ | refine XaW ?_ | refine Xae ?_ | refine Xaa ?_ | refine XaM ?_ | refine XaI ?_ | refine Xag ?_) | (refine Xai _ rfl (fun h => ?_) (fun h => ?_) <;> ((try (simp only [whn] at h)); skip)) | ((apply Xad rfl); (case h => ((first | (apply Xab 0 rfl; (first | exact Xar _ rfl | exact Xao _ rfl)) | (apply Xab 5 rfl; (exact Xal _ _ _ _ _ _ rfl rfl Xa6.out)) | (apply Xab 6 rfl; (exact XaA _ _ _ _ _ _ _ _ rfl rfl XaZ.out XaO.out (by first | exact XuY rfl | fail) (by first | exact XuY rfl | fail))) | (apply Xab 8 rfl; (exact XaS _ _ _ _ _ _ _ rfl rfl rfl (by kernel_rfl) rfl (by omega))) | (apply XaF; (case hs => (intro _ _ h; cases h)); (case hx => rfl); (case hrun => (intro w; simp [wtb, AV.val, go_sem]; (try go_bits); rfl)))))); (case hT => ((try simp only [wtn]); rfl))) | fail))
 ·have hd := hdig'.out t.text[i] (List.getElem_mem h)
  have e : Xdm (t.text.take (i + 1)) = 10 * nv + (((t.text[i]?.getD 0).toNat : Int) - 48) % 256 := by
   rw [Xa4 _ _ h, Xgr, hnv'.out, List.getElem?_eq_getElem h]
   simp only [Option.getD_some]
   omega
  refine ⟨i + 1, by omega, by omega, ?_⟩
  rw [e]
  exact (XaK.mk' [] _ (XuZ _) (XaE.refl _ _) (by (repeat' (first | exact VwL.nil | (refine VwL.cons ?_ ?_) | exact Vw.refl _ | exact Vw.top _ | fail))))
 ·refine Xaf _ _ (Xc2 rfl (RV.tmp _) (RV.tmp _) (XaK.mk' [_] [] (XuZ _) XaE.nil (VwL.refl _ _))) ?_
  have e := hnv'.out
  rw [List.take_of_length_le (by omega)] at e
  exact ⟨by rw [if_pos hk2.out, e]; rfl, rfl⟩
def XgO (e : EF) (f : UInt8) (t : Tok) : EF :=
 if f.toNat = 78 then { e with job := t.text } else if f.toNat = 75 then { e with ok := decide (t.text = wOk) } else if f.toNat = 68 then { e with data := t.text }
 else if f.toNat = 84 then { e with time := if t.kind = 2 then Xdm t.text else 0 }
 else if f.toNat = 67 then { e with code := if t.kind = 2 then Xdm t.text else 0 } else if f.toNat = 76 then { e with client := if t.kind = 2 then Xdm t.text else 0 } else { e with num := if t.kind = 2 then Xdm t.text else 0 }
def XbL (f : UInt8) (t : Tok) : Bool :=
 if f.toNat = 78 then decide (t.kind = 1) else if f.toNat = 75 then decide (t.kind = 1 ∧ (t.text = wOk ∨ t.text = Xdb)) else if f.toNat = 68 then decide (t.kind = 3)
 else if f.toNat = 84 then decide (t.kind = 2) else decide (t.kind = 2 ∧ Xdm t.text ≤ 999999999)
theorem Xit (e : EF) (f : UInt8) (t : Tok) : XeP e f t = if XbL f t then some (XgO e f t) else none := by
 unfold XeP XbL XgO
 by_cases h1 : f.toNat = 78
 ·simp [h1]
 by_cases h2 : f.toNat = 75
 ·simp [h2]
 by_cases h3 : f.toNat = 68
 ·simp [h3]
 simp only [h1, h2, h3, if_false]
 by_cases hk : t.kind = 2
 ·by_cases h4 : f.toNat = 84
  ·simp [h4, hk]
  ·by_cases hn : Xdm t.text ≤ 999999999
   ·by_cases h5 : f.toNat = 67
    ·simp [h5, hk, hn] <;> skip
    ·by_cases h6 : f.toNat = 76
     ·simp [h6, hk, hn] <;> skip
     ·simp [h4, h5, h6, hk, hn] <;> skip
   ·simp [h4, hk, hn] <;> skip
 ·by_cases h4 : f.toNat = 84
  ·simp [h4, hk]
  ·simp [h4, hk]
set_option maxRecDepth 100000 in
set_option maxHeartbeats 8000000 in
theorem Xqq (be : Nat) (e : EF) (f : UInt8) (t : Tok) (hN : Xpa t) (hlen : t.text.length ≤ 70000) (hk : t.kind = 2) : Xa8 Tryz.prog 58 [.box be e.cells] [.x (.pointer (some ⟨be, 0, none⟩)), .x (.int .u8 (f.toNat : Nat)), t.av] (fun r H' => r = .x (.bool (XbL f t)) ∧ H' = [.box be (XgO e f t).cells]) := by
 have q1 := XfX t 999999999 hN
 have q2 := XfX t 18446744073709551615 hN
 obtain ⟨b1, b2⟩ := Xk4 hN hk
 clear hN
 unfold Tok.av at q1 q2 ⊢
 unfold Xuh at q1 q2
 have he : e.cells = [.x (.int .i64 e.kind), .x (.string (bs e.job)), .x (.bool e.ok), .x (.int .i64 e.code), .sq e.data.length (u8a e.data), .x (.int .u64 e.time), .x (.int .i64 e.client), .x (.int .i64 e.num)] := rfl
 rw [he]
 rw [if_pos hk] at q1 q2
 rw [show decide (Xdm t.text ≤ 18446744073709551615) = true from decide_eq_true (by omega)] at q2
 generalize hnv : Xdm t.text = nv at *
 have hnv' := Lib.hid hnv
 clear hnv
 have hlen' := hlen
 refine XaG Tryz.func58 rfl ?_
 simp only [Tryz.ntmps58, Xu2, Xu5, Xu6, Xu7, Xva, Xu9, Nat.reduceAdd, Nat.reduceSub]
 (repeat' (first | with_reducible (first | refine Xah ?_ | refine Xac ?_ | refine Xan ?_ | refine Xat ?_ | refine Xae ?_ | refine Xaa ?_ | refine Xaw ?_ | refine Xag ?_ | refine Xav ?_) | (refine Xai _ rfl (fun h => ?_) (fun h => ?_) <;> ((try (simp only [whn] at h)); skip)) | ((first | apply Xad rfl | apply Xa7 _ _ rfl rfl rfl); (case h => ((try (intro (hp : (_ : Bool) = true); ((try simp only [Bool.and_eq_true, Bool.not_eq_true'] at hp); (try simp only [hp, wte]); (try simp only [whn] at hp)))); (first | (apply Xab 0 rfl; (first | exact Xar _ rfl | exact Xao _ rfl)) | (apply Xab 1 rfl; (first | exact Xbn _ _ _ _ _ rfl rfl rfl rfl | exact XcI _ _ _ _ _ rfl rfl rfl rfl)) | (apply Xab 2 rfl; (exact XaL _ _ _ _ rfl rfl rfl)) | (apply Xab 4 rfl; (exact Xbf _ rfl (by first | exact .inl ⟨_, rfl⟩ | fail))) | (apply Xab 5 rfl; (exact Xal _ _ _ _ _ _ rfl rfl Xa6.out)) | (apply Xab 6 rfl; (exact XaA _ _ _ _ _ _ _ _ rfl rfl XaZ.out XaO.out (by first | exact XuY rfl | fail) (by first | exact XuY rfl | fail))) | (apply Xab 11 rfl; (first | exact Xaz 96 Tryz.f96 _ _ rfl rfl Tryz.func96 (by decide) rfl (VwL.refl _ _) (q1) | exact Xaz 96 Tryz.f96 _ _ rfl rfl Tryz.func96 (by decide) rfl (VwL.refl _ _) (q2))) | (apply Xab 12 rfl; (exact XcT _ _ 5 _ _ rfl (by kernel_rfl) (by kernel_rfl) (by kernel_rfl) (by kernel_rfl) rfl (by omega))) | (apply XaF; (case hs => (intro _ _ h; cases h)); (case hx => rfl); (case hrun => (intro w; simp [wtb, AV.val, go_sem]; (try go_bits); rfl)))))); (case hT => ((try simp only [wtn, ↓reduceIte]); rfl))) | (refine Xaj rfl ?_; ((first | (refine Xaq 15 rfl ?_; ((refine Xbt _ _ rfl (by first | rfl | fail) (fun b => ?_)))) | (refine Xaq 16 rfl ?_; ((refine Xau _ _ _ _ _ _ _ rfl rfl XaZ.out XaR.out (by first | rfl | fail) (by first | exact XuY rfl | fail) ?_)))); apply Xak; (case hT => ((try simp only [wtn]); rfl)); (case hH => ((try simp only [wtn]); rfl)))) | fail))
 all_goals
  refine Xaf _ _ (Xbl rfl (RV.tmp _) (XaK.mk' [_] [_] (XuZ _) (XaE.refl _ _) (VwL.refl _ _))) ?_
  have hnv := hnv'.out
  refine ⟨?_, ?_⟩
  ·unfold XbL
   (try rw [if_pos (show f.toNat = 78 by omega)]); (try rw [if_neg (show ¬ f.toNat = 78 by omega)]); (try rw [if_pos (show f.toNat = 75 by omega)]); (try rw [if_neg (show ¬ f.toNat = 75 by omega)]); (try rw [if_pos (show f.toNat = 68 by omega)]); (try rw [if_neg (show ¬ f.toNat = 68 by omega)]); (try rw [if_pos (show f.toNat = 84 by omega)]); (try rw [if_neg (show ¬ f.toNat = 84 by omega)]); skip; skip; skip; skip
   simp [ev, hk, hnv, wOk, Xdb]
   try (first | done | fail)
  ·unfold XgO
   (try rw [if_pos (show f.toNat = 78 by omega)]); (try rw [if_neg (show ¬ f.toNat = 78 by omega)]); (try rw [if_pos (show f.toNat = 75 by omega)]); (try rw [if_neg (show ¬ f.toNat = 75 by omega)]); (try rw [if_pos (show f.toNat = 68 by omega)]); (try rw [if_neg (show ¬ f.toNat = 68 by omega)]); (try rw [if_pos (show f.toNat = 84 by omega)]); (try rw [if_neg (show ¬ f.toNat = 84 by omega)]); (try rw [if_pos (show f.toNat = 67 by omega)]); (try rw [if_neg (show ¬ f.toNat = 67 by omega)]); (try rw [if_pos (show f.toNat = 76 by omega)]); (try rw [if_neg (show ¬ f.toNat = 76 by omega)])
   simp [EF.cells, hk, hnv, wOk]
   try (first | done | (by_cases hq : t.text = [111, 107] <;> simp [hq]; done) | fail)
set_option maxRecDepth 100000 in
set_option maxHeartbeats 8000000 in
theorem Xqz (be : Nat) (e : EF) (f : UInt8) (t : Tok) (hN : Xpa t) (hlen : t.text.length ≤ 70000) (hk : ¬ t.kind = 2) : Xa8 Tryz.prog 58 [.box be e.cells] [.x (.pointer (some ⟨be, 0, none⟩)), .x (.int .u8 (f.toNat : Nat)), t.av] (fun r H' => r = .x (.bool (XbL f t)) ∧ H' = [.box be (XgO e f t).cells]) := by
 have q1 := XfX t 999999999 hN
 have q2 := XfX t 18446744073709551615 hN
 clear hN
 unfold Tok.av at q1 q2 ⊢
 unfold Xuh at q1 q2
 have he : e.cells = [.x (.int .i64 e.kind), .x (.string (bs e.job)), .x (.bool e.ok), .x (.int .i64 e.code), .sq e.data.length (u8a e.data), .x (.int .u64 e.time), .x (.int .i64 e.client), .x (.int .i64 e.num)] := rfl
 rw [he]
 rw [if_neg hk] at q1 q2
 have hlen' := hlen
 refine XaG Tryz.func58 rfl ?_
 simp only [Tryz.ntmps58, Xu2, Xu5, Xu6, Xu7, Xva, Xu9, Nat.reduceAdd, Nat.reduceSub]
 (repeat' (first | with_reducible (first | refine Xah ?_ | refine Xac ?_ | refine Xan ?_ | refine Xat ?_ | refine Xae ?_ | refine Xaa ?_ | refine Xaw ?_ | refine Xag ?_ | refine Xav ?_) | (refine Xai _ rfl (fun h => ?_) (fun h => ?_) <;> ((try (simp only [whn] at h)); skip)) | ((first | apply Xad rfl | apply Xa7 _ _ rfl rfl rfl); (case h => ((try (intro (hp : (_ : Bool) = true); ((try simp only [Bool.and_eq_true, Bool.not_eq_true'] at hp); (try simp only [hp, wte]); (try simp only [whn] at hp)))); (first | (apply Xab 0 rfl; (first | exact Xar _ rfl | exact Xao _ rfl)) | (apply Xab 1 rfl; (first | exact Xbn _ _ _ _ _ rfl rfl rfl rfl | exact XcI _ _ _ _ _ rfl rfl rfl rfl)) | (apply Xab 2 rfl; (exact XaL _ _ _ _ rfl rfl rfl)) | (apply Xab 4 rfl; (exact Xbf _ rfl (by first | exact .inl ⟨_, rfl⟩ | fail))) | (apply Xab 5 rfl; (exact Xal _ _ _ _ _ _ rfl rfl Xa6.out)) | (apply Xab 6 rfl; (exact XaA _ _ _ _ _ _ _ _ rfl rfl XaZ.out XaO.out (by first | exact XuY rfl | fail) (by first | exact XuY rfl | fail))) | (apply Xab 11 rfl; (first | exact Xaz 96 Tryz.f96 _ _ rfl rfl Tryz.func96 (by decide) rfl (VwL.refl _ _) (q1) | exact Xaz 96 Tryz.f96 _ _ rfl rfl Tryz.func96 (by decide) rfl (VwL.refl _ _) (q2))) | (apply Xab 12 rfl; (exact XcT _ _ 5 _ _ rfl (by kernel_rfl) (by kernel_rfl) (by kernel_rfl) (by kernel_rfl) rfl (by omega))) | (apply XaF; (case hs => (intro _ _ h; cases h)); (case hx => rfl); (case hrun => (intro w; simp [wtb, AV.val, go_sem]; (try go_bits); rfl)))))); (case hT => ((try simp only [wtn, ↓reduceIte]); rfl))) | (refine Xaj rfl ?_; ((first | (refine Xaq 15 rfl ?_; ((refine Xbt _ _ rfl (by first | rfl | fail) (fun b => ?_)))) | (refine Xaq 16 rfl ?_; ((refine Xau _ _ _ _ _ _ _ rfl rfl XaZ.out XaR.out (by first | rfl | fail) (by first | exact XuY rfl | fail) ?_)))); apply Xak; (case hT => ((try simp only [wtn]); rfl)); (case hH => ((try simp only [wtn]); rfl)))) | fail))
 all_goals
  refine Xaf _ _ (Xbl rfl (RV.tmp _) (XaK.mk' [_] [_] (XuZ _) (XaE.refl _ _) (VwL.refl _ _))) ?_
  refine ⟨?_, ?_⟩
  ·unfold XbL
   (try rw [if_pos (show f.toNat = 78 by omega)]); (try rw [if_neg (show ¬ f.toNat = 78 by omega)]); (try rw [if_pos (show f.toNat = 75 by omega)]); (try rw [if_neg (show ¬ f.toNat = 75 by omega)]); (try rw [if_pos (show f.toNat = 68 by omega)]); (try rw [if_neg (show ¬ f.toNat = 68 by omega)]); (try rw [if_pos (show f.toNat = 84 by omega)]); (try rw [if_neg (show ¬ f.toNat = 84 by omega)]); skip; skip; skip; skip
   simp [ev, hk, wOk, Xdb]
   try (first | done | rfl | (by_cases p1 : t.kind = 1 <;> by_cases p2 : t.text = [111, 107] <;> by_cases p3 : t.text = [102, 97, 105, 108, 101, 100] <;> simp [p1, p2, p3]; done) | fail)
  ·unfold XgO
   (try rw [if_pos (show f.toNat = 78 by omega)]); (try rw [if_neg (show ¬ f.toNat = 78 by omega)]); (try rw [if_pos (show f.toNat = 75 by omega)]); (try rw [if_neg (show ¬ f.toNat = 75 by omega)]); (try rw [if_pos (show f.toNat = 68 by omega)]); (try rw [if_neg (show ¬ f.toNat = 68 by omega)]); (try rw [if_pos (show f.toNat = 84 by omega)]); (try rw [if_neg (show ¬ f.toNat = 84 by omega)]); (try rw [if_pos (show f.toNat = 67 by omega)]); (try rw [if_neg (show ¬ f.toNat = 67 by omega)]); (try rw [if_pos (show f.toNat = 76 by omega)]); (try rw [if_neg (show ¬ f.toNat = 76 by omega)])
   simp [EF.cells, hk, wOk]
   try (first | done | (by_cases hq : t.text = [111, 107] <;> simp [hq]; done) | fail)
theorem Xr9 (be : Nat) (e : EF) (f : UInt8) (t : Tok) (hN : Xpa t) (hlen : t.text.length ≤ 70000) : Xa8 Tryz.prog 58 [.box be e.cells] [.x (.pointer (some ⟨be, 0, none⟩)), .x (.int .u8 (f.toNat : Nat)), t.av] (fun r H' => r = .x (.bool (XbL f t)) ∧ H' = [.box be (XgO e f t).cells]) := by
 by_cases hk : t.kind = 2
 ·exact Xqq be e f t hN hlen hk
 ·exact Xqz be e f t hN hlen hk
open Go.RowKit Go.Shelf
set_option maxHeartbeats 4000000 in
set_option maxRecDepth 100000 in
theorem XrF (w : World) : Calls Tryz.prog 57 #[.int .i64 1] w fun e w' => e = .returned (.tuple #[.string (bs (XbF.getD 0 [])), .string (bs (Xa5.getD 0 []))]) ∧ Ext w w' := by
 have hmx := Xbd
 go_enter Tryz.func57, Tryz.ntmps57
 go_wp2
 go_region_o
 all_goals (go_wp2; go_ret2; exact ⟨rfl, (by repeat (first | (with_reducible exact Below.refl _ _) | (with_reducible assumption) | (with_reducible refine Below.ext ?_ (by first | omega | (simp; done) | (simp; omega)) _ _) | (with_reducible refine Below.alloc ?_ (by first | omega | (simp; done) | (simp; omega)) _) | (with_reducible refine Below.setCell ?_ (by first | omega | (simp; done) | (simp; omega)) _) | (with_reducible refine Below.drew ?_) | (with_reducible refine Below.drewN ?_ _)))⟩)
set_option maxHeartbeats 4000000 in
set_option maxRecDepth 100000 in
theorem XrW (w : World) : Calls Tryz.prog 57 #[.int .i64 2] w fun e w' => e = .returned (.tuple #[.string (bs (XbF.getD 1 [])), .string (bs (Xa5.getD 1 []))]) ∧ Ext w w' := by
 have hmx := Xbd
 go_enter Tryz.func57, Tryz.ntmps57
 go_wp2
 go_region_o
 all_goals (go_wp2; go_ret2; exact ⟨rfl, (by repeat (first | (with_reducible exact Below.refl _ _) | (with_reducible assumption) | (with_reducible refine Below.ext ?_ (by first | omega | (simp; done) | (simp; omega)) _ _) | (with_reducible refine Below.alloc ?_ (by first | omega | (simp; done) | (simp; omega)) _) | (with_reducible refine Below.setCell ?_ (by first | omega | (simp; done) | (simp; omega)) _) | (with_reducible refine Below.drew ?_) | (with_reducible refine Below.drewN ?_ _)))⟩)
set_option maxHeartbeats 4000000 in
set_option maxRecDepth 100000 in
theorem Xr3 (w : World) : Calls Tryz.prog 57 #[.int .i64 3] w fun e w' => e = .returned (.tuple #[.string (bs (XbF.getD 2 [])), .string (bs (Xa5.getD 2 []))]) ∧ Ext w w' := by
 have hmx := Xbd
 go_enter Tryz.func57, Tryz.ntmps57
 go_wp2
 go_region_o
 all_goals (go_wp2; go_ret2; exact ⟨rfl, (by repeat (first | (with_reducible exact Below.refl _ _) | (with_reducible assumption) | (with_reducible refine Below.ext ?_ (by first | omega | (simp; done) | (simp; omega)) _ _) | (with_reducible refine Below.alloc ?_ (by first | omega | (simp; done) | (simp; omega)) _) | (with_reducible refine Below.setCell ?_ (by first | omega | (simp; done) | (simp; omega)) _) | (with_reducible refine Below.drew ?_) | (with_reducible refine Below.drewN ?_ _)))⟩)
set_option maxHeartbeats 4000000 in
set_option maxRecDepth 100000 in
theorem Xrs (w : World) : Calls Tryz.prog 57 #[.int .i64 4] w fun e w' => e = .returned (.tuple #[.string (bs (XbF.getD 3 [])), .string (bs (Xa5.getD 3 []))]) ∧ Ext w w' := by
 have hmx := Xbd
 go_enter Tryz.func57, Tryz.ntmps57
 go_wp2
 go_region_o
 all_goals (go_wp2; go_ret2; exact ⟨rfl, (by repeat (first | (with_reducible exact Below.refl _ _) | (with_reducible assumption) | (with_reducible refine Below.ext ?_ (by first | omega | (simp; done) | (simp; omega)) _ _) | (with_reducible refine Below.alloc ?_ (by first | omega | (simp; done) | (simp; omega)) _) | (with_reducible refine Below.setCell ?_ (by first | omega | (simp; done) | (simp; omega)) _) | (with_reducible refine Below.drew ?_) | (with_reducible refine Below.drewN ?_ _)))⟩)
set_option maxHeartbeats 4000000 in
set_option maxRecDepth 100000 in
theorem XrE (w : World) : Calls Tryz.prog 57 #[.int .i64 5] w fun e w' => e = .returned (.tuple #[.string (bs (XbF.getD 4 [])), .string (bs (Xa5.getD 4 []))]) ∧ Ext w w' := by
 have hmx := Xbd
 go_enter Tryz.func57, Tryz.ntmps57
 go_wp2
 go_region_o
 all_goals (go_wp2; go_ret2; exact ⟨rfl, (by repeat (first | (with_reducible exact Below.refl _ _) | (with_reducible assumption) | (with_reducible refine Below.ext ?_ (by first | omega | (simp; done) | (simp; omega)) _ _) | (with_reducible refine Below.alloc ?_ (by first | omega | (simp; done) | (simp; omega)) _) | (with_reducible refine Below.setCell ?_ (by first | omega | (simp; done) | (simp; omega)) _) | (with_reducible refine Below.drew ?_) | (with_reducible refine Below.drewN ?_ _)))⟩)
set_option maxHeartbeats 4000000 in
set_option maxRecDepth 100000 in
theorem Xsu (w : World) : Calls Tryz.prog 57 #[.int .i64 6] w fun e w' => e = .returned (.tuple #[.string (bs (XbF.getD 5 [])), .string (bs (Xa5.getD 5 []))]) ∧ Ext w w' := by
 have hmx := Xbd
 go_enter Tryz.func57, Tryz.ntmps57
 go_wp2
 go_region_o
 all_goals (go_wp2; go_ret2; exact ⟨rfl, (by repeat (first | (with_reducible exact Below.refl _ _) | (with_reducible assumption) | (with_reducible refine Below.ext ?_ (by first | omega | (simp; done) | (simp; omega)) _ _) | (with_reducible refine Below.alloc ?_ (by first | omega | (simp; done) | (simp; omega)) _) | (with_reducible refine Below.setCell ?_ (by first | omega | (simp; done) | (simp; omega)) _) | (with_reducible refine Below.drew ?_) | (with_reducible refine Below.drewN ?_ _)))⟩)
set_option maxHeartbeats 4000000 in
set_option maxRecDepth 100000 in
theorem Xsx (w : World) : Calls Tryz.prog 57 #[.int .i64 7] w fun e w' => e = .returned (.tuple #[.string (bs (XbF.getD 6 [])), .string (bs (Xa5.getD 6 []))]) ∧ Ext w w' := by
 have hmx := Xbd
 go_enter Tryz.func57, Tryz.ntmps57
 go_wp2
 go_region_o
 all_goals (go_wp2; go_ret2; exact ⟨rfl, (by repeat (first | (with_reducible exact Below.refl _ _) | (with_reducible assumption) | (with_reducible refine Below.ext ?_ (by first | omega | (simp; done) | (simp; omega)) _ _) | (with_reducible refine Below.alloc ?_ (by first | omega | (simp; done) | (simp; omega)) _) | (with_reducible refine Below.setCell ?_ (by first | omega | (simp; done) | (simp; omega)) _) | (with_reducible refine Below.drew ?_) | (with_reducible refine Below.drewN ?_ _)))⟩)
set_option maxHeartbeats 4000000 in
set_option maxRecDepth 100000 in
theorem XsY (w : World) : Calls Tryz.prog 57 #[.int .i64 8] w fun e w' => e = .returned (.tuple #[.string (bs (XbF.getD 7 [])), .string (bs (Xa5.getD 7 []))]) ∧ Ext w w' := by
 have hmx := Xbd
 go_enter Tryz.func57, Tryz.ntmps57
 go_wp2
 go_region_o
 all_goals (go_wp2; go_ret2; exact ⟨rfl, (by repeat (first | (with_reducible exact Below.refl _ _) | (with_reducible assumption) | (with_reducible refine Below.ext ?_ (by first | omega | (simp; done) | (simp; omega)) _ _) | (with_reducible refine Below.alloc ?_ (by first | omega | (simp; done) | (simp; omega)) _) | (with_reducible refine Below.setCell ?_ (by first | omega | (simp; done) | (simp; omega)) _) | (with_reducible refine Below.drew ?_) | (with_reducible refine Below.drewN ?_ _)))⟩)
set_option maxHeartbeats 4000000 in
set_option maxRecDepth 100000 in
theorem Xry (w : World) : Calls Tryz.prog 57 #[.int .i64 9] w fun e w' => e = .returned (.tuple #[.string (bs (XbF.getD 8 [])), .string (bs (Xa5.getD 8 []))]) ∧ Ext w w' := by
 have hmx := Xbd
 go_enter Tryz.func57, Tryz.ntmps57
 go_wp2
 go_region_o
 all_goals (go_wp2; go_ret2; exact ⟨rfl, (by repeat (first | (with_reducible exact Below.refl _ _) | (with_reducible assumption) | (with_reducible refine Below.ext ?_ (by first | omega | (simp; done) | (simp; omega)) _ _) | (with_reducible refine Below.alloc ?_ (by first | omega | (simp; done) | (simp; omega)) _) | (with_reducible refine Below.setCell ?_ (by first | omega | (simp; done) | (simp; omega)) _) | (with_reducible refine Below.drew ?_) | (with_reducible refine Below.drewN ?_ _)))⟩)
set_option maxHeartbeats 4000000 in
set_option maxRecDepth 100000 in
theorem Xqr (w : World) : Calls Tryz.prog 57 #[.int .i64 10] w fun e w' => e = .returned (.tuple #[.string (bs (XbF.getD 9 [])), .string (bs (Xa5.getD 9 []))]) ∧ Ext w w' := by
 have hmx := Xbd
 go_enter Tryz.func57, Tryz.ntmps57
 go_wp2
 go_region_o
 all_goals (go_wp2; go_ret2; exact ⟨rfl, (by repeat (first | (with_reducible exact Below.refl _ _) | (with_reducible assumption) | (with_reducible refine Below.ext ?_ (by first | omega | (simp; done) | (simp; omega)) _ _) | (with_reducible refine Below.alloc ?_ (by first | omega | (simp; done) | (simp; omega)) _) | (with_reducible refine Below.setCell ?_ (by first | omega | (simp; done) | (simp; omega)) _) | (with_reducible refine Below.drew ?_) | (with_reducible refine Below.drewN ?_ _)))⟩)
set_option maxHeartbeats 4000000 in
set_option maxRecDepth 100000 in
theorem Xqg (w : World) : Calls Tryz.prog 57 #[.int .i64 11] w fun e w' => e = .returned (.tuple #[.string (bs (XbF.getD 10 [])), .string (bs (Xa5.getD 10 []))]) ∧ Ext w w' := by
 have hmx := Xbd
 go_enter Tryz.func57, Tryz.ntmps57
 go_wp2
 go_region_o
 all_goals (go_wp2; go_ret2; exact ⟨rfl, (by repeat (first | (with_reducible exact Below.refl _ _) | (with_reducible assumption) | (with_reducible refine Below.ext ?_ (by first | omega | (simp; done) | (simp; omega)) _ _) | (with_reducible refine Below.alloc ?_ (by first | omega | (simp; done) | (simp; omega)) _) | (with_reducible refine Below.setCell ?_ (by first | omega | (simp; done) | (simp; omega)) _) | (with_reducible refine Below.drew ?_) | (with_reducible refine Below.drewN ?_ _)))⟩)
set_option maxHeartbeats 4000000 in
set_option maxRecDepth 100000 in
theorem Xqb (w : World) : Calls Tryz.prog 57 #[.int .i64 12] w fun e w' => e = .returned (.tuple #[.string (bs (XbF.getD 11 [])), .string (bs (Xa5.getD 11 []))]) ∧ Ext w w' := by
 have hmx := Xbd
 go_enter Tryz.func57, Tryz.ntmps57
 go_wp2
 go_region_o
 all_goals (go_wp2; go_ret2; exact ⟨rfl, (by repeat (first | (with_reducible exact Below.refl _ _) | (with_reducible assumption) | (with_reducible refine Below.ext ?_ (by first | omega | (simp; done) | (simp; omega)) _ _) | (with_reducible refine Below.alloc ?_ (by first | omega | (simp; done) | (simp; omega)) _) | (with_reducible refine Below.setCell ?_ (by first | omega | (simp; done) | (simp; omega)) _) | (with_reducible refine Below.drew ?_) | (with_reducible refine Below.drewN ?_ _)))⟩)
set_option maxHeartbeats 4000000 in
set_option maxRecDepth 100000 in
theorem XqO (w : World) : Calls Tryz.prog 57 #[.int .i64 13] w fun e w' => e = .returned (.tuple #[.string (bs (XbF.getD 12 [])), .string (bs (Xa5.getD 12 []))]) ∧ Ext w w' := by
 have hmx := Xbd
 go_enter Tryz.func57, Tryz.ntmps57
 go_wp2
 go_region_o
 all_goals (go_wp2; go_ret2; exact ⟨rfl, (by repeat (first | (with_reducible exact Below.refl _ _) | (with_reducible assumption) | (with_reducible refine Below.ext ?_ (by first | omega | (simp; done) | (simp; omega)) _ _) | (with_reducible refine Below.alloc ?_ (by first | omega | (simp; done) | (simp; omega)) _) | (with_reducible refine Below.setCell ?_ (by first | omega | (simp; done) | (simp; omega)) _) | (with_reducible refine Below.drew ?_) | (with_reducible refine Below.drewN ?_ _)))⟩)
set_option maxHeartbeats 4000000 in
set_option maxRecDepth 100000 in
theorem XpY (w : World) : Calls Tryz.prog 57 #[.int .i64 14] w fun e w' => e = .returned (.tuple #[.string (bs (XbF.getD 13 [])), .string (bs (Xa5.getD 13 []))]) ∧ Ext w w' := by
 have hmx := Xbd
 go_enter Tryz.func57, Tryz.ntmps57
 go_wp2
 go_region_o
 all_goals (go_wp2; go_ret2; exact ⟨rfl, (by repeat (first | (with_reducible exact Below.refl _ _) | (with_reducible assumption) | (with_reducible refine Below.ext ?_ (by first | omega | (simp; done) | (simp; omega)) _ _) | (with_reducible refine Below.alloc ?_ (by first | omega | (simp; done) | (simp; omega)) _) | (with_reducible refine Below.setCell ?_ (by first | omega | (simp; done) | (simp; omega)) _) | (with_reducible refine Below.drew ?_) | (with_reducible refine Below.drewN ?_ _)))⟩)
theorem Xq4 (k : Nat) (h1 : 1 ≤ k) (h2 : k ≤ 14) : Xa8 Tryz.prog 57 [] [.x (.int .i64 k)] (fun r H' => r = .tup [.x (.string (bs (XbF.getD (k - 1) []))), .x (.string (bs (Xa5.getD (k - 1) [])))] ∧ H' = []) := by
 have h : ∀ w, Calls Tryz.prog 57 #[.int .i64 k] w fun e w' => e = .returned (.tuple #[.string (bs (XbF.getD (k - 1) [])), .string (bs (Xa5.getD (k - 1) []))]) ∧ Ext w w' := by
  intro w
  match k, h1, h2 with
  | 1, _, _ => exact XrF w
  | 2, _, _ => exact XrW w
  | 3, _, _ => exact Xr3 w
  | 4, _, _ => exact Xrs w
  | 5, _, _ => exact XrE w
  | 6, _, _ => exact Xsu w
  | 7, _, _ => exact Xsx w
  | 8, _, _ => exact XsY w
  | 9, _, _ => exact Xry w
  | 10, _, _ => exact Xqr w
  | 11, _, _ => exact Xqg w
  | 12, _, _ => exact Xqb w
  | 13, _, _ => exact XqO w
  | 14, _, _ => exact XpY w
 refine (Xcn (args := [.int .i64 k]) h []).weak fun r H' ⟨h1, h2⟩ => ?_
 subst h1 h2
 exact ⟨_, _, XaK.mk' [] [] (XuZ _) XaE.nil (VwL.cons (Vw.tupx (l := [_, _]) (VwL.refl _ _)) VwL.nil), rfl, rfl⟩
end Go.Proofs.YtdpobjakdplljaaGreatDoor
