import Derived.Test.YtdpobjakdplljaaGreatDoorW15
import Derived.Test.YtdpobjakdplljaaGreatDoorW11
import Derived.Test.YtdpobjakdplljaaGreatDoorW8
import Derived.Test.YtdpobjakdplljaaGreatDoorW13
/- The reference's parser, exact: a fault noted, a token taken, a sign. -/
set_option linter.unusedSimpArgs false
set_option linter.unusedVariables false
namespace Go.Proofs.YtdpobjakdplljaaGreatDoor
open Go.RowKit
theorem Xbo {ts : List Tok} {k : Nat} (h : k < ts.length) : tkA ts k = ts[k] := by simp [tkA, List.getD_eq_getElem?_getD, h]
structure PS where
 k : Nat
 e : Int
 l : Int
 c : Int
def PS.cells (s : PS) (ts : List Tok) (sv : AV) : List AV := pc ts s.k s.e s.l s.c sv
def PS.fail (s : PS) (e : Int) (t : Tok) : PS := if s.e = 0 then ⟨s.k, e, t.line, t.col⟩ else s
def PS.flt (s : PS) (f : Flt) : PS := if s.e = 0 then ⟨s.k, f.code, f.line, f.col⟩ else s
def PS.on (s : PS) (n : Nat) : PS := if s.e = 0 then ⟨s.k + n, 0, s.l, s.c⟩ else s
def PS.upon {α : Type} (s : PS) (x : Except Flt α) (n : Nat) : PS := match x with
 | .ok _ => s.on n
 | .error f => s.flt f
set_option maxRecDepth 100000 in
set_option maxHeartbeats 8000000 in
theorem Xf9 (b : Nat) (ts : List Tok) (s : PS) (sv : AV) (hsv : sv.one = true) (e2 : Int) (t : Tok) : Xa8 Tryz.prog 202 [.box b (s.cells ts sv)] [.x (.pointer (some ⟨b, 0, none⟩)), .x (.int .i64 e2), t.av] (fun r H' => r = .x (.tuple #[]) ∧ H' = [.box b ((s.fail e2 t).cells ts sv)]) := by
 obtain ⟨k, e, l, c⟩ := s
 unfold Tok.av
 simp only [pc, PS.cells, PS.fail]
 refine XaG Tryz.func202 rfl ?_
 simp only [Tryz.ntmps202, Xu2, Xu5, Xu6, Xu7, Xva, Xu9, Nat.reduceAdd, Nat.reduceSub]
 (repeat' (first | with_reducible (first | refine Xah ?_ | refine Xac ?_ | refine Xax ?_ | refine Xae ?_ | refine Xaa ?_) | (refine Xai _ rfl (fun h => ?_) (fun h => ?_) <;> ((try (simp only [whn] at h)); skip)) | ((apply Xad rfl); (case h => ((first | (apply Xab 0 rfl; (exact Xar _ rfl)) | (apply Xab 4 rfl; (exact Xbf _ rfl (by first | exact .inl ⟨_, rfl⟩ | fail))) | (apply Xab 5 rfl; (exact Xal _ _ _ _ _ _ rfl rfl Xa6.out)) | (apply Xab 6 rfl; (exact XaA _ _ _ _ _ _ _ _ rfl rfl XaZ.out XaO.out (by first | exact XuY rfl | fail) (by first | exact XuY rfl | fail))) | (apply Xab 10 rfl; (exact XaU _ _ _ _ _ rfl HPl.out (by first | rfl | fail) rfl)) | (apply XaF; (case hs => (intro _ _ h; cases h)); (case hx => rfl); (case hrun => (intro w; simp [wtb, AV.val, go_sem]; skip; rfl)))))); (case hT => ((try simp only [wtn, ↓reduceIte]); rfl))) | (refine Xaj rfl ?_; ((first | (refine Xaq 15 rfl ?_; ((refine Xbt _ _ rfl (by first | rfl | fail) (fun b => ?_)))) | (refine Xaq 16 rfl ?_; ((refine Xau _ _ _ _ _ _ _ rfl rfl XaZ.out XaR.out (by first | rfl | fail) (by first | exact XuY rfl | fail) ?_)))); apply Xak; (case hT => ((try simp only [wtn]); rfl)); (case hH => ((try simp only [wtn, Nat.reduceAdd]); rfl)))) | fail))
 ·refine Xda _ _ (Xrz rfl (XaK.mk' [_] [_] (XuZ _) (XaE.refl _ _) VwL.nil)) ?_
  exact ⟨rfl, by rw [if_pos h]⟩
 ·refine Xda _ _ (Xrz rfl (XaK.mk' [_] [_] (XuZ _) (XaE.refl _ _) VwL.nil)) ?_
  exact ⟨rfl, by rw [if_neg h]⟩
set_option maxRecDepth 100000 in
set_option maxHeartbeats 8000000 in
theorem Xq3 (b : Nat) (ts : List Tok) (s : PS) (sv : AV) (hsv : sv.one = true) (kind : Int) (most : Nat) (hk : s.k < ts.length) (hl : ts.length ≤ 1000000) :
  Xa8 Tryz.prog 203 [.box b (s.cells ts sv)] [.x (.pointer (some ⟨b, 0, none⟩)), .x (.int .i64 kind), .x (.int .i64 most)] (fun r H' => r = (tkA ts s.k).av ∧ H' = [.box b ((s.upon (Xbi ts s.k kind most) 1).cells ts sv)]) := by
 obtain ⟨k, e, l, c⟩ := s
 simp only at hk
 have hn := Xj9 ts k e l c sv hk hl
 have hf := Xca ts k e l c sv
 have hF1 := Xf9 b ts ⟨k, e, l, c⟩ sv hsv 60 ts[k]
 have hF2 := Xf9 b ts ⟨k, e, l, c⟩ sv hsv 1 ts[k]
 simp only [Xbo hk]
 unfold Tok.av at hn hF1 hF2 ⊢
 simp only [pc, PS.cells] at hF1 hF2 ⊢
 have hg : Xbi ts k kind most = if ts[k].kind ≠ kind then .error (flt 60 ts[k]) else if most < ts[k].text.length then .error (flt 1 ts[k]) else .ok ts[k] := by simp only [Xbi, Xbo hk]
 have hg' := Lib.hid hg
 clear hg
 refine XaG Tryz.func203 rfl ?_
 simp only [Tryz.ntmps203, Xu2, Xu5, Xu6, Xu7, Xva, Xu9, Nat.reduceAdd, Nat.reduceSub]
 (repeat' (first | with_reducible (first | refine Xah ?_ | refine Xac ?_ | refine Xat ?_ | refine Xax ?_ | refine Xae ?_ | refine Xaa ?_ | refine Xaw ?_) | (refine Xai _ rfl (fun h => ?_) (fun h => ?_) <;> ((try (simp only [whn] at h)); skip)) | ((apply Xad rfl); (case h => ((first | (apply Xab 0 rfl; (exact Xar _ rfl)) | (apply Xab 4 rfl; (exact Xbf _ rfl (by first | exact .inl ⟨_, rfl⟩ | fail))) | (apply Xab 5 rfl; (exact Xal _ _ _ _ _ _ rfl rfl Xa6.out)) | (apply Xab 6 rfl; (exact XaA _ _ _ _ _ _ _ _ rfl rfl XaZ.out XaO.out (by first | exact XuY rfl | fail) (by first | exact XuY rfl | fail))) | (apply Xab 11 rfl; (first | exact Xbb 187 Tryz.f187 _ _ rfl rfl Tryz.func187 (by decide) rfl (by (repeat' (first | exact VwL.nil | (refine VwL.cons ?_ ?_) | exact Vw.box (List.Mem.tail _ (List.Mem.head _)) (VwL.refl _ _) | fail)); done) (hn) | exact Xbb 189 Tryz.f189 _ _ rfl rfl Tryz.func189 (by decide) rfl (by (repeat' (first | exact VwL.nil | (refine VwL.cons ?_ ?_) | exact Vw.box (List.Mem.tail _ (List.Mem.tail _ (List.Mem.head _))) (VwL.refl _ _) | fail)); done) (hf))) | (apply XaF; (case hs => (intro _ _ h; cases h)); (case hx => rfl); (case hrun => (intro w; simp [wtb, AV.val, go_sem]; (try go_bits); rfl)))))); (case hT => ((try simp (disch := omega) only [wtn, pc, Xu3, Xu0, Xu1, Xu4, Xu8, Nat.reduceAdd, Nat.reduceMul, Nat.reduceSub, ↓reduceIte, Nat.reduceEqDiff]); rfl))) | (refine Xaj rfl ?_; ((first | (refine Xaq 11 rfl ?_; (first | (refine Xam 202 Tryz.f202 [_] [_, _] _ _ rfl rfl Tryz.func202 (by decide) rfl (Xvc (l₁ := [_, _]) (l₂ := [])) (VwL.refl _ _) hF1 ?_; rintro _ _ ⟨rfl, rfl⟩) | (refine Xam 202 Tryz.f202 [_] [_, _] _ _ rfl rfl Tryz.func202 (by decide) rfl (Xvc (l₁ := [_, _]) (l₂ := [])) (VwL.refl _ _) hF2 ?_; rintro _ _ ⟨rfl, rfl⟩))) | (refine Xaq 14 rfl ?_; ((refine XaN _ _ rfl Xbp.out rfl (fun b => ?_)))) | (refine Xaq 16 rfl ?_; ((refine Xau _ _ _ _ _ _ _ rfl rfl XaZ.out XaR.out (by first | rfl | fail) (by first | exact XuY rfl | fail) ?_)))); apply Xak; (case hT => ((try simp (disch := omega) only [wtn, pc, Xu3, Xu0, Xu1, Xu4, Xu8, Nat.reduceAdd, Nat.reduceMul, Nat.reduceSub, ↓reduceIte, Nat.reduceEqDiff]); rfl)); (case hH => ((try simp (disch := omega) only [wtn, pc, Xu3, Xu0, Xu1, Xu4, Xu8, Nat.reduceAdd, Nat.reduceMul, Nat.reduceSub, ↓reduceIte, Nat.reduceEqDiff]); rfl)))) | fail))
 all_goals first
  | refine Xaf _ _ (Xbl rfl (RV.cell 1 rfl rfl XaO.out (by simp) (by simp)) (XaK.mk' [_, _] [_] (XuZ _) (XaE.refl _ _) (VwL.refl _ _))) ?_
  | refine Xaf _ _ (Xbl rfl (RV.cell 2 rfl rfl XaO.out (by simp) (by simp)) (XaK.mk' [_, _] [_] (Xvc (l₁ := [_, _]) (l₂ := [])).symm (XaE.refl _ _) (VwL.refl _ _))) ?_
 all_goals refine ⟨rfl, ?_⟩
 all_goals
  by_cases ha : ts[k].kind = kind
  ·by_cases hb : most < ts[k].text.length
   ·have e := (hg'.out).trans ((if_neg (by simpa using ha)).trans (if_pos hb))
    rw [e]; clear hg' e
    simp_all [PS.upon, PS.on, PS.flt, PS.fail, flt]; done
   ·have e := (hg'.out).trans ((if_neg (by simpa using ha)).trans (if_neg hb))
    rw [e]; clear hg' e
    simp_all [PS.upon, PS.on, PS.flt, PS.fail, flt]; done
  ·have e := (hg'.out).trans (if_pos ha)
   rw [e]; clear hg' e
   simp_all [PS.upon, PS.on, PS.flt, PS.fail, flt]; done
theorem Xob {ts : List Tok} {k : Nat} (hk : k < ts.length) (e : Int) (s : List UInt8) : isP ts k e 5 s = (e == 0 && gIs ts k s) := by
 simp only [isP, gIs, Xbo hk, List.getElem?_eq_getElem hk]
set_option maxRecDepth 100000 in
set_option maxHeartbeats 8000000 in
theorem Xt1 (b : Nat) (ts : List Tok) (s : PS) (sv : AV) (hsv : sv.one = true) (t : List UInt8) (hk : s.k < ts.length) (hl : ts.length ≤ 1000000) :
  Xa8 Tryz.prog 204 [.box b (s.cells ts sv)] [.x (.pointer (some ⟨b, 0, none⟩)), .x (.string (bs t))] (fun r H' => r = .x (.tuple #[]) ∧ H' = [.box b ((s.upon (Xb6 ts s.k t) 1).cells ts sv)]) := by
 obtain ⟨k, e, l, c⟩ := s
 simp only at hk
 have hn := Xj9 ts k e l c sv hk hl
 have hf := Xca ts k e l c sv
 have hi := XuB ts k e l c sv 5 t hk hl
 have hF := Xf9 b ts ⟨k, e, l, c⟩ sv hsv 60 ts[k]
 rw [Xob hk] at hi
 unfold Tok.av at hn hF
 simp only [pc, PS.cells] at hF ⊢
 have hg : Xb6 ts k t = if gIs ts k t then .ok () else .error (flt 60 ts[k]) := by simp only [Xb6, Xbo hk]
 have hg' := Lib.hid hg
 clear hg
 generalize gIs ts k t = gi at hi hg'
 refine XaG Tryz.func204 rfl ?_
 simp only [Tryz.ntmps204, Xu2, Xu5, Xu6, Xu7, Xva, Xu9, Nat.reduceAdd, Nat.reduceSub]
 (repeat' (first | with_reducible (first | refine Xah ?_ | refine Xac ?_ | refine Xax ?_ | refine Xae ?_ | refine Xaa ?_) | (refine Xai _ rfl (fun h => ?_) (fun h => ?_) <;> ((try (simp only [whn] at h)); skip)) | ((first | apply Xad rfl | apply Xa7 _ _ rfl rfl rfl); (case h => ((try (intro (hp : (_ : Bool) = true); ((try simp only [hp, wte]); (try simp only [whn] at hp)))); (first | (apply Xab 0 rfl; (exact Xar _ rfl)) | (apply Xab 1 rfl; (exact Xbn _ _ _ _ _ rfl rfl rfl rfl)) | (apply Xab 4 rfl; (exact Xbf _ rfl (by first | exact .inl ⟨_, rfl⟩ | fail))) | (apply Xab 5 rfl; (exact Xal _ _ _ _ _ _ rfl rfl Xa6.out)) | (apply Xab 6 rfl; (exact XaA _ _ _ _ _ _ _ _ rfl rfl XaZ.out XaO.out (by first | exact XuY rfl | fail) (by first | exact XuY rfl | fail))) | (apply Xab 11 rfl; (first | exact Xbb 187 Tryz.f187 _ _ rfl rfl Tryz.func187 (by decide) rfl (by (repeat' (first | exact VwL.nil | (refine VwL.cons ?_ ?_) | exact Vw.box (List.Mem.head _) (VwL.refl _ _) | fail)); done) (hn) | exact Xbb 189 Tryz.f189 _ _ rfl rfl Tryz.func189 (by decide) rfl (by (repeat' (first | exact VwL.nil | (refine VwL.cons ?_ ?_) | exact Vw.box (List.Mem.head _) (VwL.refl _ _) | fail)); done) (Xca ts _ _ _ _ sv) | exact Xbb 201 Tryz.f201 _ _ rfl rfl Tryz.func201 (by decide) rfl (by (repeat' (first | exact VwL.nil | (refine VwL.cons ?_ ?_) | exact Vw.refl _ | exact Vw.box (List.Mem.head _) (VwL.refl _ _) | fail)); done) (hi))) | (apply XaF; (case hs => (intro _ _ h; cases h)); (case hx => rfl); (case hrun => (intro w; simp [wtb, AV.val, go_sem]; (try go_bits); rfl)))))); (case hT => ((try simp (disch := omega) only [wtn, pc, Xu3, Xu0, Xu1, Xu4, Xu8, Nat.reduceAdd, Nat.reduceMul, Nat.reduceSub, ↓reduceIte, Nat.reduceEqDiff]); rfl))) | (refine Xaj rfl ?_; ((first | (refine Xaq 11 rfl ?_; ((refine Xam 202 Tryz.f202 [_] [] _ _ rfl rfl Tryz.func202 (by decide) rfl (XuZ _) (VwL.refl _ _) hF ?_; rintro _ _ ⟨rfl, rfl⟩))) | (refine Xaq 16 rfl ?_; ((refine Xau _ _ _ _ _ _ _ rfl rfl XaZ.out XaR.out (by first | rfl | fail) (by first | exact XuY rfl | fail) ?_)))); apply Xak; (case hT => ((try simp (disch := omega) only [wtn, pc, Xu3, Xu0, Xu1, Xu4, Xu8, Nat.reduceAdd, Nat.reduceMul, Nat.reduceSub, ↓reduceIte, Nat.reduceEqDiff]); rfl)); (case hH => ((try simp (disch := omega) only [wtn, pc, Xu3, Xu0, Xu1, Xu4, Xu8, Nat.reduceAdd, Nat.reduceMul, Nat.reduceSub, ↓reduceIte, Nat.reduceEqDiff]); rfl)))) | fail))
 all_goals
  refine Xda _ _ (Xrz rfl (XaK.mk' [] [_] (XuZ _) (XaE.refl _ _) VwL.nil)) ?_
  refine ⟨rfl, ?_⟩
  rw [hg'.out]
  cases gi <;> simp_all [PS.upon, PS.on, PS.flt, PS.fail, flt]
theorem Xgr (l : List UInt8) (c : UInt8) : Xdm (l ++ [c]) = 10 * Xdm l + (c.toNat - 48) := by simp [Xdm]
def Xex (l : List UInt8) : Prop := ∀ c ∈ l, 48 ≤ c.toNat ∧ c.toNat ≤ 57
theorem XjE (l : List UInt8) (hd : Xex l) : ∀ n, n ≤ l.length → 0 ≤ Xdm (l.take n) ∧ Xdm (l.take n) < ((10 ^ n : Nat) : Int) := by
 intro n
 induction n with
 | zero => intro _; simp [Xdm]
 | succ n ih =>
  intro hn
  have h1 := ih (by omega)
  have h2 := hd l[n] (List.getElem_mem (by omega))
  rw [Xa4 l n (by omega), Xgr, Nat.pow_succ]
  generalize 10 ^ n = p at h1 ⊢
  omega
def XeM (ts : List Tok) : Prop := ∀ t ∈ ts, t.kind = 2 → t.text.length ≤ 18 ∧ Xex t.text
theorem XrJ {ts : List Tok} (hN : XeM ts) {k : Nat} (hk : k < ts.length) : Xbi ts k 2 8192 = Xbi ts k 2 18 := by
 have h := hN ts[k] (List.getElem_mem hk)
 simp only [Xbi, Xbo hk]
 by_cases h2 : ts[k].kind = 2
 ·have h3 := (h h2).1
  rw [if_neg (fun h => h h2), if_neg (by omega), if_neg (fun h => h h2), if_neg (by omega)]
 ·rw [if_pos h2, if_pos h2]
set_option maxRecDepth 100000 in
set_option maxHeartbeats 8000000 in
theorem Xqy (b : Nat) (ts : List Tok) (s : PS) (sv : AV) (hsv : sv.one = true) (hk : s.k < ts.length) (hl : ts.length ≤ 1000000) (hN : XeM ts) :
  Xa8 Tryz.prog 212 [.box b (s.cells ts sv)] [.x (.pointer (some ⟨b, 0, none⟩))] (fun r H' => r = .x (.int .u64 (if (s.upon (Xbi ts s.k 2 18) 1).e = 0 then Xdm (tkA ts s.k).text else 0)) ∧ H' = [.box b ((s.upon (Xbi ts s.k 2 18) 1).cells ts sv)]) := by
 have hT := Xq3 b ts s sv hsv 2 18 hk hl
 obtain ⟨k, e, l, c⟩ := s
 simp only at hk
 simp only [Xbo hk] at hT ⊢
 have hTk : (({ k := k, e := e, l := l, c := c } : PS).upon (Xbi ts k 2 18) 1).e = 0 → ts[k].text.length ≤ 18 ∧ Xex ts[k].text := by
  intro h
  have h2 := hN ts[k] (List.getElem_mem hk)
  simp only [Xbi, Xbo hk] at h
  by_cases h3 : ts[k].kind = 2
  ·exact h2 h3
  ·exfalso
   rw [if_pos h3] at h
   simp only [PS.upon, PS.flt, flt] at h
   split at h <;> simp_all
 generalize ({ k := k, e := e, l := l, c := c } : PS).upon (Xbi ts k 2 18) 1 = s1 at hT hTk
 obtain ⟨k1, e1, l1, c1⟩ := s1
 simp only [PS.cells] at hT hTk ⊢
 have hTk' := Lib.hid hTk
 clear hTk
 clear hN
 refine XaG Tryz.func212 rfl ?_
 simp only [Tryz.ntmps212, Xu2, Xu5, Xu6, Xu7, Xva, Xu9, Nat.reduceAdd, Nat.reduceSub]
 (repeat' (first | with_reducible (first | refine Xah ?_ | refine Xac ?_ | refine Xan ?_ | refine Xat ?_ | refine Xax ?_ | refine Xae ?_ | refine Xaa ?_ | refine Xaw ?_) | (refine Xai _ rfl (fun h => ?_) (fun h => ?_) <;> ((try (simp only [whn] at h)); skip)) | ((apply Xad rfl); (case h => ((first | (apply Xab 0 rfl; (first | exact Xar _ rfl | exact Xao _ rfl)) | (apply Xab 11 rfl; (exact Xbb 189 Tryz.f189 _ _ rfl rfl Tryz.func189 (by decide) rfl (by (repeat' (first | exact VwL.nil | (refine VwL.cons ?_ ?_) | exact Vw.box (List.Mem.tail _ (List.Mem.head _)) (VwL.refl _ _) | fail)); done) (Xca ts _ _ _ _ sv)))))); (case hT => ((try simp (disch := omega) only [wtn, pc, Tok.av, Xu3, Xu0, Xu1, Xu4, Xu8, Nat.reduceAdd, Nat.reduceMul, Nat.reduceSub, ↓reduceIte, Nat.reduceEqDiff]); rfl))) | (refine Xaj rfl ?_; ((first | (refine Xaq 11 rfl ?_; ((refine Xam 203 Tryz.f203 [_] _ _ _ rfl rfl Tryz.func203 (by decide) rfl (XuZ _) (VwL.refl _ _) (hT) ?_; rintro _ _ ⟨rfl, rfl⟩))) | (refine Xaq 14 rfl ?_; ((refine XaN _ _ rfl Xbp.out rfl (fun b => ?_)))) | (refine Xaq 16 rfl ?_; ((refine Xau _ _ _ _ _ _ _ rfl rfl XaZ.out XaR.out (by first | rfl | fail) (by first | exact XuY rfl | fail) ?_)))); apply Xak; (case hT => ((try simp (disch := omega) only [wtn, pc, Tok.av, Xu3, Xu0, Xu1, Xu4, Xu8, Nat.reduceAdd, Nat.reduceMul, Nat.reduceSub, ↓reduceIte, Nat.reduceEqDiff]); rfl)); (case hH => ((try simp (disch := omega) only [wtn, pc, Tok.av, Xu3, Xu0, Xu1, Xu4, Xu8, Nat.reduceAdd, Nat.reduceMul, Nat.reduceSub, ↓reduceIte, Nat.reduceEqDiff]); rfl)))) | fail))
 ·refine Xaf _ _ (Xbl rfl (RV.tmp _) (XaK.mk' [_] [_] (XuZ _) (XaE.refl _ _) (VwL.refl _ _))) ?_
  exact ⟨by rw [if_neg h]; rfl, rfl⟩
 obtain ⟨hl18, hdig⟩ := hTk'.out h
 have hdig' := Lib.hid hdig
 clear hdig hTk'
 refine XaT (S := Nat) (fun i => frm 27 [(3, .x (.pointer (some ⟨b, 0, none⟩))), (4, .x (.int .u64 (Xdm (ts[k].text.take i)))), (5, .x (.int .i64 i))]) (fun _ => [.box b [.x (.int .i64 ts[k].kind), .x (.string (bs ts[k].text)), .x (.int .i64 (ts[k].line : Nat)), .x (.int .i64 (ts[k].col : Nat))], .box _ (pc ts k1 e1 l1 c1 sv)]) (fun i => i ≤ ts[k].text.length) (fun i => ts[k].text.length - i) 0 (XaK.mk' [] _ (XuZ _) (XaE.refl _ _) (by (repeat' (first | exact VwL.nil | (refine VwL.cons ?_ ?_) | exact Vw.refl _ | exact Vw.top _ | fail)))) (Nat.zero_le _) fun i hs => ?_
 have hv1 := XjE ts[k].text hdig'.out i hs
 have hpw := Nat.pow_le_pow_right (n := 10) (by decide) (show i ≤ 18 by omega)
 generalize 10 ^ i = p at hv1 hpw
 have hv2 : Xdm (ts[k].text.take i) < 1000000000000000000 := by omega
 have hv3 := hv1.1
 clear hv1 hpw
 generalize hnv : Xdm (ts[k].text.take i) = nv at hv2 hv3 ⊢
 have hnv' := Lib.hid hnv
 clear hnv
 have hT' := Lib.hid hT
 clear hT
 simp only [frm, Xu6, Xu7, Xu0, Xu1, Xvd, Xve]
 (repeat' (first | with_reducible (first | refine Xah ?_ | refine Xac ?_ | refine Xan ?_ | refine Xat ?_ | refine Xax ?_ | refine XaW ?_ | refine Xae ?_ | refine Xaa ?_ | refine XaM ?_ | refine XaI ?_ | refine Xag ?_) | (refine Xai _ rfl (fun h => ?_) (fun h => ?_) <;> ((try (simp only [whn] at h)); skip)) | ((apply Xad rfl); (case h => ((first | (apply Xab 0 rfl; (first | exact Xar _ rfl | exact Xao _ rfl)) | (apply Xab 5 rfl; (exact Xal _ _ _ _ _ _ rfl rfl Xa6.out)) | (apply Xab 6 rfl; (exact XaA _ _ _ _ _ _ _ _ rfl rfl XaZ.out XaO.out (by first | exact XuY rfl | fail) (by first | exact XuY rfl | fail))) | (apply Xab 8 rfl; (exact XaS _ _ _ _ _ _ _ rfl rfl rfl (by kernel_rfl) rfl (by omega))) | (apply XaF; (case hs => (intro _ _ h; cases h)); (case hx => rfl); (case hrun => (intro w; simp [wtb, AV.val, go_sem]; (try go_bits); rfl)))))); (case hT => ((try simp only [wtn]); rfl))) | fail))
 ·have hd := hdig'.out ts[k].text[i] (List.getElem_mem h)
  have e : Xdm (ts[k].text.take (i + 1)) = 10 * nv + (((ts[k].text[i]?.getD 0).toNat : Int) - 48) % 256 := by
   rw [Xa4 _ _ h, Xgr, hnv'.out, List.getElem?_eq_getElem h]
   simp only [Option.getD_some]
   omega
  refine ⟨i + 1, by omega, by omega, ?_⟩
  rw [e]
  exact (XaK.mk' [] _ (XuZ _) (XaE.refl _ _) (by (repeat' (first | exact VwL.nil | (refine VwL.cons ?_ ?_) | exact Vw.refl _ | exact Vw.top _ | fail))))
 ·refine Xaf _ _ (Xbl rfl (RV.tmp _) (XaK.mk' [_] [_] (XuZ _) (XaE.refl _ _) (VwL.refl _ _))) ?_
  have e := hnv'.out
  rw [List.take_of_length_le (by omega)] at e
  exact ⟨by rw [if_pos (by assumption), e]; rfl, rfl⟩
def ia (l : List Int) : List AV := l.map fun n => .x (.int .i64 n)
@[simp] theorem XuR (l : List Int) : (ia l).length = l.length := by simp [ia]
theorem Xfq (l : List Int) (k : Nat) (h : k < l.length) : (ia l).drop k = .x (.int .i64 l[k]) :: ia (l.drop (k + 1)) := by
 rw [ia, ← List.map_drop, List.drop_eq_getElem_cons h]; rfl
def Xkz (b : Nat) (l : List Int) (k : Nat) : Hp := .box b [.sq l.length (ia l), .x (.int .i64 k)]
set_option maxRecDepth 100000 in
set_option maxHeartbeats 8000000 in
theorem XiG (b : Nat) (l : List Int) (k : Nat) (hl : l.length ≤ 140737488355328) : Xa8 Tryz.prog 77 [Xkz b l k] [.x (.pointer (some ⟨b, 0, none⟩))] (fun r H' => r = .x (.bool (decide (k < l.length))) ∧ H' = [Xkz b l k]) := by
 unfold Xkz
 refine XaG Tryz.func77 rfl ?_
 simp only [Tryz.ntmps77, Xu2, Xu5, Xu6, Xu7, Xva, Xu9, Nat.reduceAdd, Nat.reduceSub]
 (repeat' (first | with_reducible (first | refine Xah ?_ | refine Xac ?_ | refine Xat ?_ | refine Xae ?_ | refine Xb3 ?_ | refine Xaa ?_) | (with_reducible refine Xbc Xbd ?_ ?_; (decide +kernel)) | ((first | apply Xad rfl | apply XbH rfl); (case h => ((first | (apply Xab 0 rfl; (first | exact Xar _ rfl | exact Xao _ rfl)) | (apply Xab 3 rfl; (exact XaX _ _ _ _ _ _ HEl.out rfl rfl)) | (apply Xab 4 rfl; (exact Xbf _ rfl (by first | exact .inl ⟨_, rfl⟩ | fail))) | (apply Xab 5 rfl; (exact Xal _ _ _ _ _ _ rfl rfl Xa6.out)) | (apply Xab 6 rfl; (exact XaA _ _ _ _ _ _ _ _ rfl rfl XaZ.out XaO.out (by first | exact XuY rfl | fail) (by first | exact XuY rfl | fail))) | (apply XaF; (case hs => (intro _ _ h; cases h)); (case hx => rfl); (case hrun => (intro w; simp [wtb, AV.val, go_sem]; skip; rfl)))))); (case hT => ((try simp only [wtn]); rfl))) | fail))
 refine Xaf _ _ (Xbl rfl (RV.tmp _) (XaK.mk' [] _ (XuZ _) (XaE.refl _ _) (VwL.refl _ _))) ?_
 exact ⟨rfl, rfl⟩
theorem Xlf (v n : Int) (hn : 1 ≤ n) (hn2 : n ≤ 9223372036854775807) (hv : -9223372036854775808 ≤ v ∧ v ≤ 9223372036854775807) (H : List Hp) : Xa8 Tryz.prog 16 H [.x (.int .i64 v), .x (.int .i64 n)] (fun r H' => r = .x (.int .i64 (v % n)) ∧ H' = H) :=
 Xcn (args := [.int .i64 v, .int .i64 n]) (fun w => (XsI v n w hn hn2 hv.1 hv.2).mono fun e w' ⟨h1, h2⟩ => ⟨h1, h2 ▸ Below.refl _ _⟩) H
def Xou (l : List Int) (k : Nat) (n : Nat) : Int := if h : k < l.length then l[k] % n else 0
def I64 (l : List Int) : Prop := ∀ x ∈ l, -9223372036854775808 ≤ x ∧ x ≤ 9223372036854775807
set_option maxRecDepth 100000 in
set_option maxHeartbeats 8000000 in
theorem Xnj (b : Nat) (l : List Int) (k n : Nat) (hl : l.length ≤ 140737488355328) (hk : k ≤ l.length) (hn : 1 ≤ n) (hn2 : n ≤ 1000000) (hI : I64 l) : Xa8 Tryz.prog 43 [Xkz b l k] [.x (.pointer (some ⟨b, 0, none⟩)), .x (.int .i64 n)] (fun r H' => r = .x (.int .i64 (Xou l k n)) ∧ H' = [Xkz b l (min (k + 1) l.length)]) := by
 have hI := Lib.hid hI
 have hd : Xkz b l k = .box b [.sq l.length (ia l), .x (.int .i64 k)] := rfl
 rw [hd]
 refine XaG Tryz.func43 rfl ?_
 simp only [Tryz.ntmps43, Xu2, Xu5, Xu6, Xu7, Xva, Xu9, Nat.reduceAdd, Nat.reduceSub]
 (repeat' (first | with_reducible (first | refine Xah ?_ | refine Xac ?_ | refine Xat ?_ | refine Xax ?_ | refine Xae ?_ | refine Xb3 ?_ | refine Xaa ?_ | refine Xaw ?_) | (with_reducible refine Xbc Xbd ?_ ?_; (decide +kernel)) | (refine Xai _ rfl (fun h => ?_) (fun h => ?_) <;> ((try (simp only [whn] at h)); skip)) | ((first | apply Xad rfl | apply XbH rfl); (case h => ((first | (apply Xab 0 rfl; (first | exact Xar _ rfl | exact Xao _ rfl)) | (apply Xab 4 rfl; (exact Xbf _ rfl (by first | exact .inl ⟨_, rfl⟩ | fail))) | (apply Xab 5 rfl; (exact Xal _ _ _ _ _ _ rfl rfl Xa6.out)) | (apply Xab 6 rfl; (first | exact XaD _ _ _ _ _ rfl rfl XaO.out (by first | exact XuY rfl | fail) (by first | exact XuY rfl | fail) | exact XaA _ _ _ _ _ _ _ _ rfl rfl XaZ.out XaO.out (by first | exact XuY rfl | fail) (by first | exact XuY rfl | fail))) | (apply Xab 7 rfl; (exact XaC _ _ _ _ _ _ _ _ _ _ rfl rfl rfl HEl.out rfl (by first | omega | fail) (by simp; first | omega | fail))) | (apply Xab 11 rfl; (exact Xaz 16 Tryz.f16 _ _ rfl rfl Tryz.func16 (by decide) rfl (VwL.refl _ _) (Xlf _ _ (by omega) (by omega) (hI.out _ (List.getElem_mem _)) []))) | (apply XaF; (case hs => (intro _ _ h; cases h)); (case hx => rfl); (case hrun => (intro w; simp [wtb, AV.val, go_sem]; (try go_bits); rfl)))))); (case hT => ((try simp (disch := assumption) only [wtn, Xkz, Xfq, Xu3, Xu0, Xu1, Xu4, Xu8, Nat.reduceAdd, Nat.reduceMul, Nat.reduceSub, ↓reduceIte, Nat.reduceEqDiff]); rfl))) | (refine Xaj rfl ?_; ((first | (refine Xaq 11 rfl ?_; ((refine Xam 77 Tryz.f77 ([Xkz b l k]) _ _ _ rfl rfl Tryz.func77 (by decide) rfl (XuZ _) (VwL.refl _ _) (XiG b l k hl) ?_; rintro _ _ ⟨rfl, rfl⟩))) | (refine Xaq 16 rfl ?_; ((refine Xau _ _ _ _ _ _ _ rfl rfl XaZ.out XaR.out (by first | rfl | fail) (by first | exact XuY rfl | fail) ?_)))); apply Xak; (case hT => ((try simp (disch := omega) only [wtn, Xkz, Xfq, Xu3, Xu0, Xu1, Xu4, Xu8, Nat.reduceAdd, Nat.reduceMul, Nat.reduceSub, ↓reduceIte, Nat.reduceEqDiff]); rfl)); (case hH => ((try simp (disch := omega) only [wtn, Xkz, Xfq, Xu3, Xu0, Xu1, Xu4, Xu8, Nat.reduceAdd, Nat.reduceMul, Nat.reduceSub, ↓reduceIte, Nat.reduceEqDiff]); rfl)))) | fail))
 ·refine Xaf _ _ (Xbl rfl (RV.tmp _) (XaK.mk' [] _ (XuZ _) (XaE.refl _ _) (VwL.refl _ _))) ?_
  exact ⟨by rw [Xou, dif_neg h]; rfl, by rw [show min (k + 1) l.length = k from by omega]; rfl⟩
 ·refine Xaf _ _ (Xbl rfl (RV.tmp _) (XaK.mk' [] _ (XuZ _) (XaE.refl _ _) (VwL.refl _ _))) ?_
  exact ⟨by rw [Xou, dif_pos h]; rfl, by rw [show min (k + 1) l.length = k + 1 from by omega]; rfl⟩
structure DK (l : List Int) : Prop where
 len : l.length ≤ 140737488355328
 vals : I64 l
theorem Xpg (l : List Int) (k n : Nat) (hn : 1 ≤ n) : ∃ v : Nat, Xou l k n = v ∧ v < n := by
 unfold Xou
 split
 ·refine ⟨(l[k] % n).toNat, ?_, ?_⟩
  ·have := Int.emod_nonneg l[k] (show (n : Int) ≠ 0 by omega); omega
  ·have h1 := Int.emod_nonneg l[k] (show (n : Int) ≠ 0 by omega)
   have h2 := Int.emod_lt_of_pos l[k] (show (0 : Int) < n by omega); omega
 ·exact ⟨0, rfl, by omega⟩
def dk (b : Nat) (l : List Int) (k : Nat) : List AV := [.sq l.length (ia l), .x (.int .i64 k)]
theorem XbC (b : Nat) (l : List Int) (k n : Nat) (hd : DK l) (hk : k ≤ l.length) (hn : 1 ≤ n) (hn2 : n ≤ 1000000) : Xa8 Tryz.prog 43 [.box b [.sq l.length (ia l), .x (.int .i64 k)]] [.x (.pointer (some ⟨b, 0, none⟩)), .x (.int .i64 n)] (fun r H' => ∃ v k' : Nat, r = .x (.int .i64 v) ∧ H' = [.box b [.sq l.length (ia l), .x (.int .i64 k')]] ∧ v < n ∧ k' ≤ l.length) := by
 refine (Xnj b l k n hd.len hk hn hn2 hd.vals).mono ?_
 rintro r H' ⟨rfl, rfl⟩
 obtain ⟨v, e, hv⟩ := Xpg l k n hn
 exact ⟨v, min (k + 1) l.length, by rw [e], rfl, hv, by omega⟩
set_option maxRecDepth 100000 in
set_option maxHeartbeats 8000000 in
theorem XcU (b : Nat) (l : List Int) (k lo hi : Nat) (hd : DK l) (hk : k ≤ l.length) (hn : lo ≤ hi) (hn2 : hi ≤ 1000) : Xa8 Tryz.prog 59 [.box b [.sq l.length (ia l), .x (.int .i64 k)]] [.x (.pointer (some ⟨b, 0, none⟩)), .x (.int .i64 lo), .x (.int .i64 hi)] (fun r H' => ∃ v k' : Nat, r = .x (.int .i64 v) ∧ H' = [.box b [.sq l.length (ia l), .x (.int .i64 k')]] ∧ lo ≤ v ∧ v ≤ hi ∧ k' ≤ l.length) := by
 refine XaG Tryz.func59 rfl ?_
 simp only [Tryz.ntmps59, Xu2, Xu5, Xu6, Xu7, Xva, Xu9, Nat.reduceAdd, Nat.reduceSub]
 have e : (hi : Int) - lo + 1 = ((hi - lo + 1 : Nat) : Int) := by omega
 (repeat' (first | with_reducible (first | refine Xah ?_ | refine Xac ?_ | refine Xat ?_ | refine Xae ?_ | refine Xaa ?_) | ((apply Xad rfl); (case h => ((first | (apply Xab 0 rfl; (first | exact Xar _ rfl | exact Xao _ rfl)) | (apply XaF; (case hs => (intro _ _ h; cases h)); (case hx => rfl); (case hrun => (intro w; simp [wtb, AV.val, go_sem]; (try go_bits); rfl)))))); (case hT => ((try simp (disch := omega) only [wtn, e, Xu3, Xu0, Xu1, Xu4, Xu8, Nat.reduceAdd, Nat.reduceMul, Nat.reduceSub, ↓reduceIte, Nat.reduceEqDiff]); rfl))) | (refine Xaj rfl ?_; (((refine Xaq 11 rfl ?_; ((refine Xam 43 Tryz.f43 ([_]) _ _ _ rfl rfl Tryz.func43 (by decide) rfl (XuZ _) (VwL.refl _ _) (XbC b l k (hi - lo + 1) hd hk (by omega) (by omega)) ?_; rintro _ _ ⟨v, k', rfl, rfl, hv, hk'⟩)))); apply Xak; (case hT => ((try simp (disch := omega) only [wtn, e, Xu3, Xu0, Xu1, Xu4, Xu8, Nat.reduceAdd, Nat.reduceMul, Nat.reduceSub, ↓reduceIte, Nat.reduceEqDiff]); rfl)); (case hH => ((try simp (disch := omega) only [wtn, e, Xu3, Xu0, Xu1, Xu4, Xu8, Nat.reduceAdd, Nat.reduceMul, Nat.reduceSub, ↓reduceIte, Nat.reduceEqDiff]); rfl)))) | fail))
 refine Xaf _ _ (Xbl rfl (RV.tmp _) (XaK.mk' [] _ (XuZ _) (XaE.refl _ _) (VwL.refl _ _))) ?_
 exact ⟨lo + v, k', by congr 2, rfl, by omega, by omega, hk'⟩
theorem XuX (l : List (List UInt8)) (k : Nat) (h : k < l.length) : (sa l).drop k = .x (.string (bs (l.getD k []))) :: sa (l.drop (k + 1)) := by
 rw [Xds l k h, List.getD_eq_getElem?_getD, List.getElem?_eq_getElem h]; rfl
theorem Xfk (l : List (List UInt8)) (v : Nat) (h : v < l.length) : ((sa l).drop v).getD 0 .top = .x (.string (bs (l.getD v []))) := by
 rw [XuX l v h]; rfl
theorem Xs2 (l : List (List UInt8)) (p : List UInt8 → Prop) (h : ∀ s ∈ l, p s) (v : Nat) (hv : v < l.length) : p (l.getD v []) := by
 rw [List.getD_eq_getElem?_getD, List.getElem?_eq_getElem hv]; exact h _ (List.getElem_mem hv)
def XkD : List (List UInt8) := [[97], [98], [99], [100], [120]]
set_option maxRecDepth 100000 in
set_option maxHeartbeats 8000000 in
theorem XtP (bd : Nat) (l : List Int) (k : Nat) (hd : DK l) (hk : k ≤ l.length) : Xa8 Tryz.prog 44 [.box bd [.sq l.length (ia l), .x (.int .i64 k)]] [.x (.pointer (some ⟨bd, 0, none⟩))] (fun r H' => ∃ (s : List UInt8) (k' : Nat), r = .x (.string (bs s)) ∧ H' = [.box bd [.sq l.length (ia l), .x (.int .i64 k')]] ∧ s.length = 1 ∧ k' ≤ l.length) := by
 refine XaG Tryz.func44 rfl ?_
 simp only [Tryz.ntmps44, Xu2, Xu5, Xu6, Xu7, Xva, Xu9, Nat.reduceAdd, Nat.reduceSub]
 (repeat' (first | with_reducible (first | refine Xah ?_ | refine Xac ?_ | refine Xat ?_ | refine Xae ?_ | refine Xaa ?_) | ((apply Xad rfl); (case h => ((first | (apply Xab 0 rfl; (first | exact Xar _ rfl | exact Xao _ rfl)) | (apply Xab 6 rfl; (exact XaD _ _ _ _ _ rfl rfl XaO.out (by first | (simp [wlq]; omega) | fail) (by first | (simp [wlq]; omega) | fail))) | (apply Xab 7 rfl; (exact XaC _ _ _ _ _ _ _ _ _ _ rfl rfl rfl HEl.out rfl (by first | omega | fail) (by simp; first | done | fail))) | (apply Xab 17 rfl; (exact XbN _ _ _ _ _ _ rfl XaQ.out rfl (by first | rfl | fail) rfl rfl (by decide)))))); (case hT => ((try simp only [wtn]); rfl))) | (refine Xaj rfl ?_; (((refine Xaq 11 rfl ?_; ((refine Xam 43 Tryz.f43 [_] _ _ _ rfl rfl Tryz.func43 (by decide) rfl (XuZ _) (VwL.refl _ _) (XbC _ l k 5 hd hk (by omega) (by omega)) ?_; rintro _ _ ⟨v, k', rfl, rfl, hv, hk'⟩)))); apply Xak; (case hT => ((try simp only [wtn]); rfl)); (case hH => ((try simp only [wtn]); rfl)))) | fail))
 refine Xaf _ _ (Xbl rfl (RV.tmp _) (XaK.mk' [] [_] (XuZ _) (XaE.refl _ _) (VwL.refl _ _))) ⟨XkD.getD v [], k', Xfk XkD v hv, rfl, ?_, hk'⟩
 exact Xs2 XkD (fun s => s.length = 1) (by decide) v hv
def XqW : List (List UInt8) := [[111, 107], [111], [107], [114, 101, 97, 100, 121, 10], [117, 112], [10, 103, 111, 111], [49, 50, 120], [97, 98, 97, 98, 99], [99], [10], [122, 122], [27, 91, 49, 109, 104, 105, 13, 10]]
theorem Xmn {l : List AV} (h : l = sa XqW) {v : Nat} (hv : v < XqW.length) : (l.drop v).getD 0 .top = .x (.string (bs (XqW.getD v []))) := h ▸ Xfk XqW v hv
set_option maxRecDepth 100000 in
set_option maxHeartbeats 8000000 in
theorem XhI (bd : Nat) (l : List Int) (k : Nat) (hd : DK l) (hk : k ≤ l.length) : Xa8 Tryz.prog 62 [.box bd [.sq l.length (ia l), .x (.int .i64 k)]] [.x (.pointer (some ⟨bd, 0, none⟩))] (fun r H' => ∃ (s : List UInt8) (k' : Nat), r = .sq s.length (u8a s) ∧ H' = [.box bd [.sq l.length (ia l), .x (.int .i64 k')]] ∧ s.length ≤ 8 ∧ k' ≤ l.length) := by
 refine XaG Tryz.func62 rfl ?_
 simp only [Tryz.ntmps62, Xu2, Xu5, Xu6, Xu7, Xva, Xu9, Nat.reduceAdd, Nat.reduceSub]
 (repeat' (first | with_reducible (first | refine Xah ?_ | refine Xac ?_ | refine Xat ?_ | refine Xae ?_ | refine Xaa ?_) | ((apply Xad rfl); (case h => ((first | (apply Xab 0 rfl; (first | exact Xar _ rfl | exact Xao _ rfl)) | (apply Xab 6 rfl; (exact XaD _ _ _ _ _ rfl rfl XaO.out (by first | (simp [wlq]; omega) | fail) (by first | (simp [wlq]; omega) | fail))) | (apply Xab 7 rfl; (exact XaC _ _ _ _ _ _ _ _ _ _ rfl rfl rfl HEl.out rfl (by first | omega | fail) (by simp; first | done | fail))) | (apply Xab 12 rfl; (exact XcT _ _ 5 _ (XqW.getD v []) rfl (by kernel_rfl) (by kernel_rfl) (by kernel_rfl) (by kernel_rfl) (Xmn rfl hv) (Nat.le_trans (Xs2 XqW (fun s => s.length ≤ 8) (by decide) v hv) (by decide)))) | (apply Xab 17 rfl; (exact XbN _ _ _ _ _ _ rfl XaQ.out rfl (by first | rfl | fail) rfl rfl (by decide)))))); (case hT => ((try simp only [wtn]); rfl))) | (refine Xaj rfl ?_; (((refine Xaq 11 rfl ?_; ((refine Xam 43 Tryz.f43 [_] _ _ _ rfl rfl Tryz.func43 (by decide) rfl (XuZ _) (VwL.refl _ _) (XbC _ l k 12 hd hk (by omega) (by omega)) ?_; rintro _ _ ⟨v, k', rfl, rfl, hv, hk'⟩)))); apply Xak; (case hT => ((try simp only [wtn]); rfl)); (case hH => ((try simp only [wtn]); rfl)))) | fail))
 refine Xaf _ _ (Xbl rfl (RV.tmp _) (XaK.mk' [] [_] (XuZ _) (XaE.refl _ _) (VwL.refl _ _))) ⟨XqW.getD v [], k', rfl, rfl, ?_, hk'⟩
 exact Xs2 XqW (fun s => s.length ≤ 8) (by decide) v hv
def XmN : List (List UInt8) := [[111, 107], [], [114, 46, 42, 121, 36], [94, 117, 112, 124, 103, 111, 43], [91, 48, 45, 57, 93, 43, 120, 63], [40, 97, 98, 41, 42, 99], [94, 36]]
set_option maxRecDepth 100000 in
set_option maxHeartbeats 8000000 in
theorem Xma : Xa8 Tryz.prog 118 [] [] (fun r H' => r = .sq 7 (sa XmN) ∧ H' = []) := by
 refine XaG Tryz.func118 rfl ?_
 simp only [Tryz.ntmps118, Xu5, Xu6, Xu7, Xu9, Nat.reduceSub]
 (repeat' (first | with_reducible (first | refine Xah ?_ | refine Xac ?_ | refine Xat ?_ | refine Xae ?_ | refine Xaa ?_) | ((apply Xad rfl); (case h => ((first | (apply Xab 0 rfl; (exact Xao _ rfl)) | (apply Xab 17 rfl; (exact XbN _ _ _ _ _ _ rfl XaQ.out rfl (by first | rfl | fail) rfl rfl (by decide)))))); (case hT => ((try simp only [wtn]); rfl))) | fail))
 refine Xaf _ _ (Xbl rfl (RV.tmp _) (XaK.mk' [] _ (XuZ _) (XaE.refl _ _) (VwL.refl _ _))) ?_
 exact ⟨rfl, rfl⟩
end Go.Proofs.YtdpobjakdplljaaGreatDoor
