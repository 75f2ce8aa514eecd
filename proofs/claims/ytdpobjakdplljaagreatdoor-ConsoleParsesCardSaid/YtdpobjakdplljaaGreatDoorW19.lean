import Derived.Test.YtdpobjakdplljaaGreatDoorW18
import Derived.Test.YtdpobjakdplljaaGreatDoorW7
import Derived.Test.YtdpobjakdplljaaGreatDoorW16
import Derived.Test.YtdpobjakdplljaaGreatDoorW15
import Derived.Test.YtdpobjakdplljaaGreatDoorW10
/- The reference of scripts: an event of tokens. -/
set_option linter.unusedSimpArgs false
set_option linter.unusedVariables false
namespace Go.Proofs.YtdpobjakdplljaaGreatDoor
open Go.RowKit
theorem Xso {w : List UInt8} (h : ∀ i, i < 14 → XbF.getD i [] ≠ w) : Xnc w = none := by
 unfold Xnc
 rw [if_neg]
 intro hm
 obtain ⟨i, hi, e⟩ := List.mem_iff_getElem.1 hm
 exact h i hi (by rw [List.getD_eq_getElem?_getD, List.getElem?_eq_getElem hi]; exact e)
theorem Xsb {w : List UInt8} {k : Nat} (hk : k < 14) (h : XbF.getD k [] = w) : Xnc w = some k := by
 unfold Xnc
 subst h
 match k, hk with
 | 0, _ => decide
 | 1, _ => decide
 | 2, _ => decide
 | 3, _ => decide
 | 4, _ => decide
 | 5, _ => decide
 | 6, _ => decide
 | 7, _ => decide
 | 8, _ => decide
 | 9, _ => decide
 | 10, _ => decide
 | 11, _ => decide
 | 12, _ => decide
 | 13, _ => decide
def XmH : Option EF → AV
 | some e => .tup [.agg e.cells, .x (.bool true)]
 | none => .tup [.x (.agg #[.int .i64 0, .string (bs []), .bool false, .int .i64 0, .slice none 0 0, .int .u64 0, .int .i64 0, .int .i64 0]), .x (.bool false)]
theorem XiH (l : List Tok) (k : Nat) (h : k < l.length) : (ta l).drop (k * 4) = .x (.int .i64 l[k].kind) :: .x (.string (bs l[k].text)) :: .x (.int .i64 (l[k].line : Nat)) :: .x (.int .i64 (l[k].col : Nat)) :: ta (l.drop (k + 1)) := XeC l k h
theorem Xb2 (v : Nat) : (v : Int) + 1 = ((v + 1 : Nat) : Int) := by omega
theorem XfE (e : EF) (fs : List UInt8) (ts : List Tok) (i : Nat) (h1 : i < fs.length) (h2 : i < ts.length) : XdM e (fs.drop i) (ts.drop i) = (XeP e fs[i] ts[i]).bind fun e => XdM e (fs.drop (i + 1)) (ts.drop (i + 1)) := by
 rw [List.drop_eq_getElem_cons h1, List.drop_eq_getElem_cons h2]; rfl
theorem Xgs {l : List Tok} (h1 : 1 ≤ l.length) (h : l[0].kind = 1 → ∀ i, i < 14 → XbF.getD i [] ≠ l[0].text) : Xcd l = none := by
 cases l with
 | nil => simp at h1
 | cons t r =>
  unfold Xcd
  simp only [List.getElem_cons_zero] at h ⊢
  by_cases hk : t.kind = 1
  ·rw [if_neg (fun q => q hk), Xso (h hk)]
  ·rw [if_pos hk]
theorem Xea {l : List Tok} (h1 : 1 ≤ l.length) (hk : l[0].kind = 1) {k : Nat} (h14 : k < 14) (hw : XbF.getD k [] = l[0].text) : Xcd l = if l.length ≠ (Xa5.getD k []).length + 1 then none else XdM (ev0 (k + 1 : Nat)) (Xa5.getD k []) (l.drop 1) := by
 cases l with
 | nil => simp at h1
 | cons t r =>
  unfold Xcd
  simp only [List.getElem_cons_zero] at hk hw ⊢
  rw [if_neg (fun q => q hk), Xsb h14 hw]
  simp only [Xu2, List.drop_succ_cons, List.drop_zero]
  by_cases he : r.length = (Xa5.getD k []).length
  ·rw [if_neg (fun q => q he), if_neg (by omega)]
  ·rw [if_pos he, if_pos (by omega)]
theorem XkQ {k : Nat} (h : k < 14) : (Xa5.getD k []).length ≤ 2 := by
 match k, h with
 | 0, _ => decide
 | 1, _ => decide
 | 2, _ => decide
 | 3, _ => decide
 | 4, _ => decide
 | 5, _ => decide
 | 6, _ => decide
 | 7, _ => decide
 | 8, _ => decide
 | 9, _ => decide
 | 10, _ => decide
 | 11, _ => decide
 | 12, _ => decide
 | 13, _ => decide
set_option maxRecDepth 100000 in
set_option maxHeartbeats 8000000 in
theorem XsD (l : List Tok) (h1 : 1 ≤ l.length) (hl : l.length ≤ 3000) (hN : ∀ t ∈ l, Xpa t) (hlen : ∀ t ∈ l, t.text.length ≤ 70000) : Xa8 Tryz.prog 28 [] [.sq l.length (ta l)] (fun r H' => r = XmH (Xcd l) ∧ H' = []) := by
 have hN' := Lib.hid hN
 have hlen' := Lib.hid hlen
 clear hN hlen
 have h0 := XiH l 0 (by omega)
 refine XaG Tryz.func28 rfl ?_
 simp only [Tryz.ntmps28, Xu2, Xu5, Xu6, Xu7, Xva, Xu9, Nat.reduceAdd, Nat.reduceSub]
 (repeat' (first | with_reducible (first | refine Xah ?_ | refine Xac ?_ | refine Xan ?_ | refine Xae ?_ | refine Xaa ?_) | ((apply Xad rfl); (case h => (((apply Xab 0 rfl; (exact Xao _ rfl))))); (case hT => ((try simp only [wtn]); rfl))) | (refine Xaj rfl ?_; (((refine Xaq 14 rfl ?_; ((refine XaN _ _ rfl Xbp.out rfl (fun b => ?_))))); apply Xak; (case hT => ((try simp only [wtn]); rfl)); (case hH => ((try simp only [wtn]); rfl)))) | fail))
 revert b
 intro br
 apply XaT (S := Nat) (fun k => frm 59 [(0, .sq l.length (ta l)), (2, .x (.pointer (some ⟨br, 0, none⟩))), (4, .x (.int .i64 k))]) (fun _ => [.box br [.x (.int .i64 0), .x (.string (bs [])), .x (.bool false), .x (.int .i64 0), .x (.slice none 0 0), .x (.int .u64 0), .x (.int .i64 0), .x (.int .i64 0)]]) (fun k => 1 ≤ k ∧ k ≤ 15 ∧ (l[0].kind = 1 → ∀ i, i < k - 1 → XbF.getD i [] ≠ l[0].text)) (fun k => 15 - k) 1
 case h0 => exact (XaK.mk' [] _ (XuZ _) (XaE.refl _ _) (by (repeat' (first | exact VwL.nil | (refine VwL.cons ?_ ?_) | exact Vw.refl _ | exact Vw.top _ | fail))))
 case hi => exact ⟨Nat.le_refl _, by omega, fun _ i hi => by omega⟩
 rintro k ⟨k1, k2, hw⟩
 have hw' := Lib.hid hw
 clear hw
 simp only [frm, Xu6, Xu7, Xu0, Xu1, Xvd, Xve]
 by_cases hk : k ≤ 14
 ·have hf := Xq4 k k1 hk
  have hfl := XkQ (k := k - 1) (by omega)
  generalize hwd : XbF.getD (k - 1) [] = wd at hf
  generalize hfs : Xa5.getD (k - 1) [] = fs at hf hfl
  have hwd' := Lib.hid hwd
  have hfs' := Lib.hid hfs
  clear hwd hfs
  (repeat' (first | with_reducible (first | refine Xah ?_ | refine Xac ?_ | refine Xan ?_ | refine Xat ?_ | refine Xax ?_ | refine XaW ?_ | refine Xae ?_ | refine Xaa ?_ | refine XaM ?_ | refine Xaw ?_ | refine XaI ?_ | refine Xav ?_) | (refine Xai _ rfl (fun h => ?_) (fun h => ?_) <;> ((try (simp only [whn] at h)); first | (exfalso; omega; done) | skip)) | ((first | apply Xad rfl | apply Xa7 _ _ rfl rfl rfl); (case h => ((try (intro (hp : (_ : Bool) = true); ((try simp only [Bool.not_eq_true'] at hp); (try simp only [hp, wte]); (try simp only [whn] at hp)))); (first | (apply Xab 0 rfl; (first | exact Xar _ rfl | exact Xao _ rfl)) | (apply Xab 1 rfl; (exact Xcz _ _ _ _ _ rfl rfl rfl rfl)) | (apply Xab 2 rfl; (exact XaL _ _ _ _ rfl rfl rfl)) | (apply Xab 3 rfl; (exact XaX _ _ _ _ _ _ HEl.out rfl rfl)) | (apply Xab 5 rfl; (exact Xbe _ _ _ _ _ rfl rfl Xa6.out)) | (apply Xab 6 rfl; (exact XaD _ _ _ _ _ rfl rfl XaO.out (by first | exact XuY rfl | fail) (by first | exact XuY rfl | fail))) | (apply Xab 7 rfl; (exact XaC _ _ _ _ _ _ _ _ _ _ rfl rfl rfl HEl.out rfl (by first | assumption | fail) (by simp; first | omega | fail))) | (apply Xab 10 rfl; (exact XaU _ _ _ _ _ rfl HPl.out (by first | rfl | fail) rfl)) | (apply Xab 11 rfl; (exact Xaz 57 Tryz.f57 _ _ rfl rfl Tryz.func57 (by decide) rfl (VwL.refl _ _) (hf))) | (apply XaF; (case hs => (intro _ _ h; cases h)); (case hx => rfl); (case hrun => (intro w; simp [wtb, AV.val, go_sem]; (try go_bits); rfl)))))); (case hT => ((try simp (disch := omega) only [wtn, h0, Xu3, Xu0, Xu1, Xu4, Xu8, Nat.reduceAdd, Nat.reduceMul, Nat.reduceSub, ↓reduceIte, Nat.reduceEqDiff]); rfl))) | (refine Xaj rfl ?_; ((first | (refine Xaq 14 rfl ?_; ((refine XaN _ _ rfl Xbp.out rfl (fun b => ?_)))) | (refine Xaq 16 rfl ?_; ((refine Xau _ _ _ _ _ _ _ rfl rfl XaZ.out XaR.out (by first | rfl | fail) (by first | exact XuY rfl | fail) ?_)))); apply Xak; (case hT => ((try simp (disch := omega) only [wtn, h0, Xu3, Xu0, Xu1, Xu4, Xu8, Nat.reduceAdd, Nat.reduceMul, Nat.reduceSub, ↓reduceIte, Nat.reduceEqDiff]); rfl)); (case hH => ((try simp (disch := omega) only [wtn, h0, Xu3, Xu0, Xu1, Xu4, Xu8, Nat.reduceAdd, Nat.reduceMul, Nat.reduceSub, ↓reduceIte, Nat.reduceEqDiff]); rfl)))) | fail))
  ·refine ⟨k + 1, by omega, ⟨by omega, by omega, fun hk1 i hi => ?_⟩, (XaK.mk' [] _ (XuZ _) (XaE.refl _ _) (by (repeat' (first | exact VwL.nil | (refine VwL.cons ?_ ?_) | exact Vw.refl _ | exact Vw.top _ | fail))))⟩
   rcases Nat.lt_or_ge i (k - 1) with h5 | h5
   ·exact hw'.out hk1 i h5
   ·obtain rfl : i = k - 1 := by omega
    rw [hwd'.out]
    rcases h with h | h
    ·exact absurd hk1 h
    ·exact fun e => h e.symm
  ·rename_i _ hkw
   refine Xaf _ _ (Xc2 rfl (RV.cell 1 rfl rfl XaO.out (by simp) (by simp)) (RV.tmp _) (XaK.mk' [_, _] [] (XuZ _) XaE.nil (VwL.refl _ _))) ?_
   refine ⟨?_, rfl⟩
   rw [Xea h1 (by exact hkw.1) (k := k - 1) (by omega) (by rw [hwd'.out, hkw.2]), hfs'.out, if_pos (by omega)]
   rfl
  ·rename_i _ hkw
   have hkw' := Lib.hid hkw
   clear hkw
   revert b
   intro be
   have hat := Lib.hid (Xea h1 hkw'.out.1 (k := k - 1) (by omega) (by rw [hwd'.out, hkw'.out.2]))
   have hlf : l.length = fs.length + 1 := by omega
   apply XaT (S := Nat × EF) (fun q => frm 59 [(0, .sq l.length (ta l)), (2, .x (.pointer (some ⟨br, 0, none⟩))), (6, .x (.string (bs fs))), (7, .x (.pointer (some ⟨be, 0, none⟩))), (8, .x (.int .i64 q.1))]) (fun q => [.box be q.2.cells, .box br [.x (.int .i64 0), .x (.string (bs [])), .x (.bool false), .x (.int .i64 0), .x (.slice none 0 0), .x (.int .u64 0), .x (.int .i64 0), .x (.int .i64 0)]]) (fun q => q.1 ≤ fs.length ∧ Xcd l = XdM q.2 (fs.drop q.1) ((l.drop 1).drop q.1)) (fun q => fs.length - q.1) (0, ev0 k)
   case h0 => exact XaK.mk' [] [_, _] (XuZ _) (XaE.cons (VwH.box _ (VwL.cons (Vw.refl _) (VwL.cons (Vw.refl _) (VwL.cons (Vw.refl _) (VwL.cons (Vw.refl _) (VwL.cons Vw.nil (VwL.refl _ _))))))) (XaE.cons (VwH.refl _ _) XaE.nil)) (by (repeat' (first | exact VwL.nil | (refine VwL.cons ?_ ?_) | exact Vw.refl _ | exact Vw.top _ | fail)))
   case hi =>
    refine ⟨Nat.zero_le _, ?_⟩
    rw [hat.out, hfs'.out, if_neg (by omega), List.drop_zero, List.drop_zero, show k - 1 + 1 = k from by omega]
   rintro ⟨i, ev⟩ ⟨g1, g2⟩
   simp only at g1 g2
   have g2' := Lib.hid g2
   clear g2
   simp only [frm, Xu6, Xu7, Xu0, Xu1, Xvd, Xve]
   by_cases hi : i < fs.length
   ·have hd := XiH l (i + 1) (by omega)
    have hF := Xr9 be ev (fs.getD i 0) l[i + 1] (hN'.out _ (List.getElem_mem _)) (hlen'.out _ (List.getElem_mem _))
    have hst := Lib.hid (XfE ev fs (l.drop 1) i hi (by simp; omega))
    unfold Tok.av at hF
    (repeat' (first | with_reducible (first | refine Xah ?_ | refine Xac ?_ | refine Xan ?_ | refine Xax ?_ | refine Xae ?_ | refine Xaa ?_) | (refine Xai _ rfl (fun h => ?_) (fun h => ?_) <;> ((try (simp only [whn] at h)); first | (exfalso; omega; done) | skip)) | ((apply Xad rfl); (case h => ((first | (apply Xab 0 rfl; (exact Xar _ rfl)) | (apply XaF; (case hs => (intro _ _ h; cases h)); (case hx => rfl); (case hrun => (intro w; simp [wtb, AV.val, go_sem]; skip; rfl)))))); (case hT => ((try simp only [wtn]); rfl))) | fail))
    refine XcJ (B := []) (R := [_, _]) Xbd [0, 1, 2, 3, 4, 5, 6, 7, 8, 9] [8] [] none [] 0 (XuZ _) (by decide +kernel) rfl (fun i o h => by cases h) (by decide) ?_
    (repeat' (first | (apply Xcb rfl rfl; (case h => (intro H1; (try simp only [Xu9]); (first | (apply Xab 0 rfl; (exact Xar _ rfl)) | (apply Xab 6 rfl; (exact XaD _ _ _ _ _ rfl rfl XaO.out (by first | exact XuY rfl | fail) (by first | exact XuY rfl | fail))) | (apply Xab 7 rfl; (exact XaC _ _ _ _ _ _ _ _ _ _ rfl rfl rfl HEl.out rfl (by first | omega | fail) (by simp; first | omega | fail))) | (apply Xab 8 rfl; (exact XaS _ _ _ _ _ _ _ rfl rfl rfl (by kernel_rfl) rfl (by omega))) | (apply XaF; (case hs => (intro _ _ h; cases h)); (case hx => rfl); (case hrun => (intro w; simp [wtb, AV.val, go_sem]; (try go_bits); rfl)))))); (case hT => ((try simp (disch := omega) only [wtn, hd, Xb2, Xu3, Xu0, Xu1, Xu4, Xu8, Nat.reduceAdd, Nat.reduceMul, Nat.reduceSub, ↓reduceIte, Nat.reduceEqDiff]); rfl))) | (apply Xcu rfl rfl; ((refine Xaq 11 rfl ?_; ((refine Xam 58 Tryz.f58 [_] _ _ _ rfl rfl Tryz.func58 (by decide) rfl (XuZ _) (VwL.refl _ _) (hF) ?_; rintro _ _ ⟨rfl, rfl⟩)))); refine ⟨_, rfl, ?_⟩; apply Xcv; (case hT => ((try simp (disch := omega) only [wtn, hd, Xb2, Xu3, Xu0, Xu1, Xu4, Xu8, Nat.reduceAdd, Nat.reduceMul, Nat.reduceSub, ↓reduceIte, Nat.reduceEqDiff]); rfl)); (case hH => ((try simp (disch := omega) only [wtn, hd, Xb2, Xu3, Xu0, Xu1, Xu4, Xu8, Nat.reduceAdd, Nat.reduceMul, Nat.reduceSub, ↓reduceIte, Nat.reduceEqDiff]); rfl))) | fail))
    (first | refine XbK ?_ | fail); (apply Xay; (case hT => rfl); (case hH => (simp only [Xu9]; rfl))); skip; refine Xa3 (by decide +kernel) ?_
    (repeat (first | refine Xaa ?_ | fail))
    have e1 : fs.getD i 0 = fs[i] := by rw [List.getD_eq_getElem?_getD, List.getElem?_eq_getElem hi]; rfl
    have e2 : (l.drop 1)[i]'(by simp; omega) = l[i + 1] := by simp [Nat.add_comm]
    have hst2 := hst.out
    rw [e2, ← e1, Xit] at hst2
    have hst3 := Lib.hid hst2
    clear hst2 hst e1 e2
    (repeat' (first | with_reducible (first | refine Xah ?_ | refine Xac ?_ | refine Xat ?_ | refine Xax ?_ | refine Xae ?_ | refine Xaa ?_ | refine Xaw ?_ | refine Xag ?_ | refine Xav ?_) | (refine Xai _ rfl (fun h => ?_) (fun h => ?_) <;> ((try (simp only [whn] at h)); skip)) | ((apply Xad rfl); (case h => ((first | (apply Xab 0 rfl; (first | exact Xar _ rfl | exact Xao _ rfl)) | (apply Xab 10 rfl; (exact XaU _ _ _ _ _ rfl HPl.out (by first | rfl | fail) rfl)) | (apply XaF; (case hs => (intro _ _ h; cases h)); (case hx => rfl); (case hrun => (intro w; simp [wtb, AV.val, go_sem]; (try go_bits); rfl)))))); (case hT => ((try simp only [wtn, ↓reduceIte]); rfl))) | (refine Xaj rfl ?_; (((refine Xaq 16 rfl ?_; ((refine Xau _ _ _ _ _ _ _ rfl rfl XaZ.out XaR.out (by first | rfl | fail) (by first | exact XuY rfl | fail) ?_)))); apply Xak; (case hT => ((try simp only [wtn]); rfl)); (case hH => ((try simp only [wtn, Nat.reduceAdd]); rfl)))) | fail))
    ·have h' : XbL (fs.getD i 0) l[i + 1] = false := by simpa using h
     refine Xaf _ _ (Xc2 rfl (RV.cell 1 rfl rfl XaO.out (by simp) (by simp)) (RV.tmp _) (XaK.mk' [_, _] [] (XuZ _) XaE.nil (VwL.refl _ _))) ?_
     refine ⟨?_, rfl⟩
     rw [g2'.out, hst3.out, h']
     rfl
    ·have h' : XbL (fs.getD i 0) l[i + 1] = true := by simpa using h
     refine ⟨(i + 1, XgO ev (fs.getD i 0) l[i + 1]), by simp only; omega, ⟨by simp only; omega, ?_⟩, ?_⟩
     ·simp only
      rw [g2'.out, hst3.out, h']
      rfl
     ·exact (XaK.mk' [] _ (XuZ _) (XaE.refl _ _) (by (repeat' (first | exact VwL.nil | (refine VwL.cons ?_ ?_) | exact Vw.refl _ | exact Vw.top _ | fail))))
   ·unfold EF.cells
    (repeat' (first | with_reducible (first | refine Xah ?_ | refine Xac ?_ | refine Xat ?_ | refine XaW ?_ | refine Xae ?_ | refine Xaa ?_ | refine XaM ?_ | refine Xaw ?_ | refine XaI ?_ | refine Xav ?_) | (refine Xai _ rfl (fun h => ?_) (fun h => ?_) <;> ((try (simp only [whn] at h)); first | (exfalso; omega; done) | skip)) | ((apply Xad rfl); (case h => ((first | (apply Xab 0 rfl; (first | exact Xar _ rfl | exact Xao _ rfl)) | (apply Xab 6 rfl; (exact XaA _ _ _ _ _ _ _ _ rfl rfl XaZ.out XaO.out (by first | exact XuY rfl | fail) (by first | exact XuY rfl | fail))) | (apply XaF; (case hs => (intro _ _ h; cases h)); (case hx => rfl); (case hrun => (intro w; simp [wtb, AV.val, go_sem]; skip; rfl)))))); (case hT => ((try simp only [wtn, ↓reduceIte]); rfl))) | (refine Xaj rfl ?_; (((refine Xaq 16 rfl ?_; ((refine Xau _ _ _ _ _ _ _ rfl rfl XaZ.out XaR.out (by first | rfl | fail) (by first | exact XuY rfl | fail) ?_)))); apply Xak; (case hT => ((try simp only [wtn]); rfl)); (case hH => ((try simp only [wtn, Nat.reduceAdd]); rfl)))) | fail))
    refine Xaf _ _ (Xc2 rfl (RV.cell 1 rfl rfl XaO.out (by simp) (by simp)) (RV.tmp _) (XaK.mk' [_, _] [] (XuZ _) XaE.nil (VwL.refl _ _))) ?_
    refine ⟨?_, rfl⟩
    rw [g2'.out, List.drop_of_length_le (by omega)]
    rfl
 ·(repeat' (first | with_reducible (first | refine Xah ?_ | refine Xac ?_ | refine Xat ?_ | refine XaW ?_ | refine Xae ?_ | refine Xaa ?_ | refine XaM ?_ | refine XaI ?_) | (refine Xai _ rfl (fun h => ?_) (fun h => ?_) <;> ((try (simp only [whn] at h)); first | (exfalso; omega; done) | skip)) | ((apply Xad rfl); (case h => ((first | (apply Xab 0 rfl; (first | exact Xar _ rfl | exact Xao _ rfl)) | (apply Xab 10 rfl; (exact XaU _ _ _ _ _ rfl HPl.out (by first | rfl | fail) rfl)) | (apply XaF; (case hs => (intro _ _ h; cases h)); (case hx => rfl); (case hrun => (intro w; simp [wtb, AV.val, go_sem]; skip; rfl)))))); (case hT => ((try simp only [wtn, ↓reduceIte]); rfl))) | (refine Xaj rfl ?_; (((refine Xaq 16 rfl ?_; ((refine Xau _ _ _ _ _ _ _ rfl rfl XaZ.out XaR.out (by first | rfl | fail) (by first | exact XuY rfl | fail) ?_)))); apply Xak; (case hT => ((try simp only [wtn]); rfl)); (case hH => ((try simp only [wtn, Nat.reduceAdd]); rfl)))) | fail))
  refine Xaf _ _ (Xc2 rfl (RV.cell 0 rfl rfl XaO.out (by simp) (by simp)) (RV.tmp _) (XaK.mk' [_] [] (XuZ _) XaE.nil (VwL.refl _ _))) ?_
  refine ⟨?_, rfl⟩
  rw [Xgs h1 (fun q i hi => hw'.out q i (by omega))]
  rfl
def dcI (n : Int) : List UInt8 := if n < 0 then 45 :: XbT (-n).toNat else XbT n.toNat
theorem XhV {n : Int} (h : 0 ≤ n) : dcI n = XbT n.toNat := if_neg (by omega)
def XcA (e : EF) (f : UInt8) : List UInt8 :=
 if f.toNat = 78 then e.job else if f.toNat = 75 then (if e.ok then wOk else Xdb) else if f.toNat = 68 then Xc8 e.data
 else if f.toNat = 84 then XbT e.time.toNat else if f.toNat = 67 then dcI e.code else if f.toNat = 76 then dcI e.client else dcI e.num
def Xb5 (e : EF) (fs : List UInt8) : List UInt8 := fs.flatMap fun f => 32 :: XcA e f
def Xhh (k : Nat) (e : EF) : List UInt8 := XbF.getD k [] ++ Xb5 e (Xa5.getD k [])
def Xeb (e : EF) : List UInt8 := if 1 ≤ e.kind ∧ e.kind ≤ 14 then Xhh (e.kind.toNat - 1) e else []
def XcZ (l : List EF) : List UInt8 := l.flatMap fun e => Xeb e ++ [10]
def cKT (e : EF) (f : UInt8) : KT :=
 if f.toNat = 78 then (1, e.job) else if f.toNat = 75 then (1, if e.ok then wOk else Xdb) else if f.toNat = 68 then (3, e.data)
 else if f.toNat = 84 then (2, XbT e.time.toNat) else if f.toNat = 67 then (2, XbT e.code.toNat) else if f.toNat = 76 then (2, XbT e.client.toNat) else (2, XbT e.num.toNat)
def Xs3 (e a : EF) (f : UInt8) : EF :=
 if f.toNat = 78 then { a with job := e.job } else if f.toNat = 75 then { a with ok := e.ok } else if f.toNat = 68 then { a with data := e.data }
 else if f.toNat = 84 then { a with time := e.time } else if f.toNat = 67 then { a with code := e.code } else if f.toNat = 76 then { a with client := e.client } else { a with num := e.num }
def Sm (n : Int) : Prop := 0 ≤ n ∧ n ≤ 999999999
def FOk (e : EF) (f : UInt8) : Prop :=
 if f.toNat = 78 then Xcy e.job else if f.toNat = 75 then True else if f.toNat = 68 then True
 else if f.toNat = 84 then Xhz e.time else if f.toNat = 67 then Sm e.code else if f.toNat = 76 then Sm e.client else Sm e.num
theorem Sm.b {n : Int} (h : Sm n) : Xhz n := ⟨h.1, by have := h.2; omega⟩
def XfH (e : EF) : Prop := ∃ k, k < 14 ∧ e.kind = ((k + 1 : Nat) : Int) ∧ (∀ f ∈ Xa5.getD k [], FOk e f) ∧ (Xa5.getD k []).foldl (Xs3 e) (ev0 (k + 1 : Nat)) = e
theorem Xn4 {e a : EF} {f : UInt8} {t : Tok} (h : FOk e f) (hk : (t.kind, t.text) = cKT e f) : XeP a f t = some (Xs3 e a f) := by
 unfold FOk at h
 unfold cKT at hk
 unfold XeP Xs3
 by_cases h1 : f.toNat = 78
 ·simp only [h1, if_true, Prod.mk.injEq] at hk ⊢
  rw [if_pos hk.1, hk.2]
 by_cases h2 : f.toNat = 75
 ·simp only [h2, if_true, Nat.reduceEqDiff, if_false] at hk ⊢
  simp only [Prod.mk.injEq] at hk
  obtain ⟨q1, q2⟩ := hk
  cases he : e.ok with
  | true => rw [he] at q2; simp only [if_true] at q2; rw [if_pos ⟨q1, .inl q2⟩, q2]; simp
  | false => rw [he] at q2; simp only [Bool.false_eq_true, if_false] at q2; rw [if_pos ⟨q1, .inr q2⟩, q2]; simp [wOk, Xdb]
 by_cases h3 : f.toNat = 68
 ·simp only [h3, if_true, Nat.reduceEqDiff, if_false] at hk ⊢
  simp only [Prod.mk.injEq] at hk
  obtain ⟨q1, q2⟩ := hk
  simp [q1, q2]
 simp only [h1, h2, h3, if_false] at h hk ⊢
 by_cases h4 : f.toNat = 84
 ·simp only [h4, if_true, Nat.reduceEqDiff, if_false, Prod.mk.injEq] at h hk ⊢
  obtain ⟨q1, q2⟩ := hk
  simp [q1, q2, XiT h]
 simp only [h4, if_false] at h hk ⊢
 by_cases h5 : f.toNat = 67
 ·simp only [h5, if_true, Nat.reduceEqDiff, if_false, Prod.mk.injEq] at h hk ⊢
  obtain ⟨q1, q2⟩ := hk
  rw [if_neg (by omega), q2, XiT h.b, if_neg (by have := h.2; omega)]
 simp only [h5, if_false] at h hk ⊢
 by_cases h6 : f.toNat = 76
 ·simp only [h6, if_true, Prod.mk.injEq] at h hk ⊢
  obtain ⟨q1, q2⟩ := hk
  rw [if_neg (by omega), q2, XiT h.b, if_neg (by have := h.2; omega)]
 simp only [h6, if_false, Prod.mk.injEq] at h hk ⊢
 obtain ⟨q1, q2⟩ := hk
 rw [if_neg (by omega), q2, XiT h.b, if_neg (by have := h.2; omega)]
theorem Xg6 {e : EF} : ∀ (fs : List UInt8) (ts : List Tok) (a : EF), (∀ f ∈ fs, FOk e f) → kts ts = fs.map (cKT e) → XdM a fs ts = some (fs.foldl (Xs3 e) a)
 | [], ts, a, _, _ => rfl
 | f :: fs, [], a, _, h => by simp [kts] at h
 | f :: fs, t :: ts, a, h, hk => by
  simp only [kts, Xu4, List.cons.injEq] at hk
  rw [XdM, Xn4 (h f (by simp)) hk.1, Option.bind_some, Xu0]
  exact Xg6 fs ts _ (fun g hg => h g (by simp [hg])) hk.2
/-! ### Lines are read -/
theorem Xa1.any {C : List UInt8 → Prop} {l : List UInt8} {ks : List KT} (h : Xa1 Any l ks) : Xa1 C l ks := fun p n t _ hn => h p n t trivial hn
theorem XnJ {e : EF} {f : UInt8} (h : FOk e f) : Xa1 Brk (XcA e f) [cKT e f] := by
 unfold FOk at h
 unfold XcA cKT
 by_cases h1 : f.toNat = 78
 ·simp only [h1, if_true] at h ⊢; exact Xa1.word h
 by_cases h2 : f.toNat = 75
 ·simp only [h2, if_true, Nat.reduceEqDiff, if_false]
  cases e.ok with
  | true => exact Xa1.word (XbI (by decide))
  | false => exact Xa1.word (XbI (by decide))
 by_cases h3 : f.toNat = 68
 ·simp only [h3, if_true, Nat.reduceEqDiff, if_false]; exact (Xa1.str e.data).any
 simp only [h1, h2, h3, if_false] at h ⊢
 by_cases h4 : f.toNat = 84
 ·simp only [h4, if_true] at h ⊢; exact Xa1.num (XdS h)
 simp only [h4, if_false] at h ⊢
 by_cases h5 : f.toNat = 67
 ·simp only [h5, if_true] at h ⊢; rw [XhV h.1]; exact Xa1.num (XdS h.b)
 simp only [h5, if_false] at h ⊢
 by_cases h6 : f.toNat = 76
 ·simp only [h6, if_true] at h ⊢; rw [XhV h.1]; exact Xa1.num (XdS h.b)
 simp only [h6, if_false] at h ⊢
 rw [XhV h.1]; exact Xa1.num (XdS h.b)
theorem Xhy {e : EF} : ∀ (fs : List UInt8) (w : List UInt8) (kw : List KT), (∀ f ∈ fs, FOk e f) → Xa1 Brk w kw → Xa1 Brk (w ++ Xb5 e fs) (kw ++ fs.map (cKT e))
 | [], w, kw, _, h => by simpa [Xb5] using h
 | f :: fs, w, kw, hf, h => by
  have h1 : Xa1 Brk (w ++ 32 :: XcA e f) (kw ++ [cKT e f]) := h.brk (by decide) (.bl 32 (by unfold Xc5; decide) (XnJ (hf f (by simp))))
  have h2 := Xhy fs _ _ (fun g hg => hf g (by simp [hg])) h1
  simpa [Xb5] using h2
theorem XrC {k : Nat} (h : k < 14) : Xcy (XbF.getD k []) := by
 match k, h with
 | 0, _ | 1, _ | 2, _ | 3, _ | 4, _ | 5, _ | 6, _ | 7, _ | 8, _ | 9, _ | 10, _ | 11, _ | 12, _ | 13, _ => exact XbI (by decide)
theorem Xrw {k : Nat} (h : k < 14) : (XbF.getD k []).length ≤ 8 := by
 match k, h with
 | 0, _ | 1, _ | 2, _ | 3, _ | 4, _ | 5, _ | 6, _ | 7, _ | 8, _ | 9, _ | 10, _ | 11, _ | 12, _ | 13, _ => decide
theorem XmE {k : Nat} (hk : k < 14) {e : EF} (h : ∀ f ∈ Xa5.getD k [], FOk e f) : Xa1 Brk (Xhh k e) ((1, XbF.getD k []) :: (Xa5.getD k []).map (cKT e)) :=
 Xhy _ _ [_] h (Xa1.word (XrC hk))
theorem XqU {l : List UInt8} {ks : List KT} (h : Xa1 Brk l ks) (h1 : ks.length ≤ 2000) (h2 : l.length ≤ 8192) : ∃ ts e, lex l = .ok (ts ++ [e]) ∧ kts ts = ks := by
 obtain ⟨ts, q1, q2⟩ := h (1, 1) 0 [] trivial (by omega)
 rw [List.append_nil, XcR _ _ [] (by rw [Xgj]; rfl)] at q2
 unfold lex
 rw [if_neg (by omega), q2]
 exact ⟨ts, _, rfl, q1⟩
theorem XjO {e : EF} (h : XfH e) {ts : List Tok} (hk : ∀ k, e.kind = ((k + 1 : Nat) : Int) → kts ts = (1, XbF.getD k []) :: (Xa5.getD k []).map (cKT e)) : Xcd ts = some e := by
 obtain ⟨k, h14, hkd, hf, hw⟩ := h
 have h1 := hk k hkd
 cases ts with
 | nil => cases h1
 | cons t r =>
  simp only [kts, Xu4, List.cons.injEq, Prod.mk.injEq] at h1
  obtain ⟨⟨q1, q2⟩, q3⟩ := h1
  have hl := congrArg List.length q3
  simp only [List.length_map] at hl
  rw [Xea (by simp) (by exact q1) h14 (by exact q2.symm), if_neg (by simp [hl]), List.drop_succ_cons, List.drop_zero, Xg6 _ _ _ hf q3, hw]
/-! ### Lines do not go over line feeds -/
def Xr8 (l : List UInt8) : Prop := ∀ b ∈ l, b.toNat ≠ 10
theorem Xr8.app {a b : List UInt8} (h1 : Xr8 a) (h2 : Xr8 b) : Xr8 (a ++ b) := fun x hx => by
 rcases List.mem_append.1 hx with h | h
 ·exact h1 x h
 ·exact h2 x h
theorem Xr8.cons {c : UInt8} {b : List UInt8} (h1 : c.toNat ≠ 10) (h2 : Xr8 b) : Xr8 (c :: b) := fun x hx => by
 rcases List.mem_cons.1 hx with rfl | h
 ·exact h1
 ·exact h2 x h
theorem XfH.line {e : EF} (h : XfH e) : ∃ k, k < 14 ∧ e.kind = ((k + 1 : Nat) : Int) ∧ Xeb e = Xhh k e ∧ ∀ f ∈ Xa5.getD k [], FOk e f := by
 obtain ⟨k, h14, hkd, hf, hw⟩ := h
 refine ⟨k, h14, hkd, ?_, hf⟩
 unfold Xeb
 rw [if_pos (by omega), show e.kind.toNat - 1 = k from by omega]
theorem XfH.lex {e : EF} (h : XfH e) (h8 : (Xeb e).length ≤ 8192) : ∃ ts, lex (Xeb e) = .ok ts ∧ ¬ ts.length ≤ 1 ∧ Xcd ts.dropLast = some e := by
 obtain ⟨k, h14, hkd, hl, hf⟩ := h.line
 have hfl := XkQ h14
 obtain ⟨ts, x, q1, q2⟩ := XqU (hl ▸ XmE h14 hf) (by simp only [Xu2, List.length_map]; omega) h8
 have hlen := congrArg List.length q2
 simp only [kts, Xu2, List.length_map] at hlen
 refine ⟨_, q1, by simp only [Xvb, Xu2, Xu5]; omega, ?_⟩
 rw [List.dropLast_concat]
 refine XjO h fun k' hk' => ?_
 obtain rfl : k' = k := by omega
 exact q2
/-! ### Which events are equal; the text, or why there is none -/
def Xg4 (a b : EF) : Bool := a.kind == b.kind && a.job == b.job && a.ok == b.ok && a.code == b.code && a.data == b.data && a.time == b.time && a.client == b.client && a.num == b.num
def XgR (a b : List EF) : Bool := decide (a.length = b.length) && (a.zip b).all fun p => Xg4 p.1 p.2
theorem XnR (a : EF) : Xg4 a a = true := by simp [Xg4]
theorem Xk3 : ∀ l : List EF, ((l.zip l).all fun p => Xg4 p.1 p.2) = true
 | [] => rfl
 | a :: l => by rw [List.zip_cons_cons, List.all_cons, XnR, Xk3 l]; rfl
theorem Xod (l : List EF) : XgR l l = true := by unfold XgR; rw [Xk3 l]; simp
theorem XlK {a b : List EF} {k : Nat} (ha : k < a.length) (hb : k < b.length) (h : (((a.take k).zip (b.take k)).all fun p => Xg4 p.1 p.2) = true) (h2 : Xg4 a[k] b[k] = true) : (((a.take (k + 1)).zip (b.take (k + 1))).all fun p => Xg4 p.1 p.2) = true := by
 rw [Xa4 a k ha, Xa4 b k hb, List.zip_append (by simp; omega)]
 simp only [List.all_append, h, Bool.true_and]
 simp [h2]
theorem Xqc {a b : List EF} {k : Nat} (ha : k < a.length) (hb : k < b.length) (h2 : Xg4 a[k] b[k] = false) : XgR a b = false := by
 unfold XgR
 rw [Bool.and_eq_false_iff]; right
 rw [List.all_eq_false]
 refine ⟨(a[k], b[k]), List.mem_iff_getElem.2 ⟨k, by simp; omega, by simp⟩, by simp [h2]⟩
def Xd5 (l : List EF) : List UInt8 × Int :=
 if 1000 < l.length then ([], 1) else if 65536 < (XcZ l).length then ([], 1)
 else if (XcP (XcZ l)).2.2 = 0 ∧ XgR l (XcP (XcZ l)).1 = true then (XcZ l, 0) else ([], 320)
theorem Xi6 (v : Int) (h0 : 0 ≤ v) (h1 : v ≤ 18446744073709551615) : Xa8 Tryz.prog 199 [] [.x (.int .u64 v)] (fun r H' => r = .x (.string (bs (XbT v.toNat))) ∧ H' = []) := by
 have := Xnx v.toNat (by omega)
 rwa [show ((v.toNat : Nat) : Int) = v by omega] at this
theorem XdT (v : Int) (h1 : v ≤ 18446744073709551615) : (XbT v.toNat).length ≤ 20 := XbP _ (by omega)
theorem XcH (s : List UInt8) : (Xc8 s).length ≤ 4 * s.length + 2 := by
 unfold Xc8; rw [Xvb]; have := Xlv s; simp; omega
theorem XhJ (n : Int) : (Xg2 n).length ≤ 4 := by
 unfold Xg2
 cases h : XcW.find? (fun s => XrQ s == n) with
 | none => simp
 | some s =>
  have := List.mem_of_find?_eq_some h
  simp only [XcW, List.mem_cons, List.not_mem_nil, or_false] at this
  rcases this with rfl | rfl | rfl | rfl | rfl | rfl <;> simp
theorem XeH (n : Int) : (XdE n).length ≤ 10 := by
 unfold XdE; repeat' (first | split | (simp; done) | fail)
end Go.Proofs.YtdpobjakdplljaaGreatDoor
