import Derived.Test.YtdpobjakdplljaaGreatDoorW28
import Derived.Test.YtdpobjakdplljaaGreatDoorW24
import Derived.Test.YtdpobjakdplljaaGreatDoorW23
/- The reference's parser, exact: a whole text. -/
set_option linter.unusedSimpArgs false
set_option linter.unusedVariables false
namespace Go.Proofs.YtdpobjakdplljaaGreatDoor
open Go.RowKit
theorem Xrp (l m : List JF) : jfa (l ++ m) = jfa l ++ jfa m := by simp [jfa]
theorem Xgo {P : Tok → Prop} (hE : ∀ p q : Nat, P ⟨6, [], p, q⟩) (hO : ∀ (l : List UInt8) a t m, one l = .ok (a, t, m) → ∀ p q : Nat, P ⟨a, t, p, q⟩) : ∀ (n : Nat) (p : Nat × Nat) (i : Nat) (l : List UInt8) (ts : List Tok), l.length ≤ n → Xce p i l = .ok ts → ∀ t ∈ ts, P t
 | n, p, i, l, ts, hn, h => by
  cases hd : l.drop (skp l) with
  | nil =>
   rw [XcR p i l hd] at h; cases h
   simpa using hE _ _
  | cons c r =>
   have hlen := congrArg List.length hd
   simp only [List.length_drop, Xu2] at hlen
   cases h1 : one (c :: r) with
   | error e => rw [XdC p i l c r e hd h1] at h; cases h
   | ok x =>
    by_cases hi : 2000 ≤ i
    ·rw [Xc7 p i l c r x hd h1 hi] at h; cases h
    ·obtain ⟨a, t, m⟩ := x
     obtain ⟨g1, g2, g3, g4⟩ := XfD h1
     simp only at g1 g2 g3 g4
     rw [Xc9 p i l c r a t m hd h1 g1 (by omega)] at h
     cases hr : Xce (plc p (l.take (skp l + m))) (i + 1) ((c :: r).drop m) with
     | error e => rw [hr] at h; cases h
     | ok y =>
      rw [hr] at h
      simp only [Except.map] at h
      cases h
      cases n with
      | zero => omega
      | succ n =>
       have ht := Xgo hE hO n _ _ _ y (by simp only [List.length_drop, Xu2]; omega) hr
       intro t ht2
       rcases List.mem_cons.1 ht2 with rfl | ht2
       ·exact hO _ _ _ _ h1 _ _
       ·exact ht t ht2
theorem Xqe (p : UInt8 → Bool) (l : List UInt8) : l.take (spn p l) = l.takeWhile p := (List.prefix_iff_eq_take.1 (List.takeWhile_prefix p)).symm
theorem Xsr {l : List UInt8} {a : Int} {t : List UInt8} {m : Nat} (h : one l = .ok (a, t, m)) : a = 2 → t.length ≤ 18 ∧ Xex t := by
 intro ha
 subst ha
 cases l with
 | nil => simp [one] at h
 | cons c r =>
  simp only [one] at h
  split at h
  ·cases h
  ·split at h
   ·split at h
    ·cases h
    ·rename_i h2
     cases h
     rw [Xqe]
     refine ⟨?_, fun x hx => ?_⟩
     ·have : ((c :: r).takeWhile Xbk).length = spn Xbk (c :: r) := rfl
      omega
     ·have := List.all_takeWhile (p := Xbk) (l := c :: r)
      have hx' := (List.all_eq_true.1 this) x hx
      simpa [Xbk] using hx'
   ·split at h
    ·split at h <;> cases h
    ·split at h
     ·split at h <;> cases h
     ·split at h <;> cases h
theorem Xhe (l : List UInt8) (ts : List Tok) (h : lex l = .ok ts) : XeM ts ∧ XpK ts := by
 have hf := (Xdt l).2 ts h
 unfold lex at h
 split at h
 ·cases h
 ·rename_i hl
  refine ⟨Xgo (P := fun t => t.kind = 2 → t.text.length ≤ 18 ∧ Xex t.text) (fun p q h => by simp at h) (fun l a t m h p q => Xsr h) l.length (1, 1) 0 l ts (Nat.le_refl _) h, ?_⟩
  obtain ⟨qs, e, rfl, he, hq, ht⟩ := XfS l.length (1, 1) 0 l ts (Nat.le_refl _) h
  exact fun t h => Nat.le_trans (ht t h) (by omega)
def Xug (x : Except Flt (List JF)) : AV := match x with
 | .ok js => .tup [.sq js.length (jfa js), .x (.agg #[.int .i64 0, .int .i64 0, .int .i64 0])]
 | .error f => .tup [.sq 0 [], f.av]
def JOk (x : Except Flt (List JF)) : Prop := match x with
 | .ok js => JBs js
 | .error f => f.code ≠ 0
set_option maxRecDepth 100000 in
set_option maxHeartbeats 8000000 in
theorem Xmk (s : List UInt8) (hl : s.length ≤ 1000000) (f : Flt) (hx : lex s = .error f) : Xa8 Tryz.prog 168 [] [.x (.string (bs s))] (fun r H' => r = Xug (Xdu s) ∧ H' = [] ∧ JOk (Xdu s)) := by
 have hall := XsP s hl
 have hf0 := (Xdt s).1 f hx
 have hg : Xdu s = .error f := by simp only [Xdu, hx]
 rw [hg]
 rw [hx] at hall
 simp only [XdZ, XhF, Flt.av] at hall
 clear hx hg
 refine XaG Tryz.func168 rfl ?_
 simp only [Tryz.ntmps168, Xu2, Xu5, Xu6, Xu7, Xva, Xu9, Nat.reduceAdd, Nat.reduceSub]
 (repeat' (first | with_reducible (first | refine Xah ?_ | refine Xac ?_ | refine Xae ?_ | refine Xaa ?_) | (refine Xai _ rfl (fun h => ?_) (fun h => ?_) <;> ((try (simp only [whn] at h)); first | (exfalso; omega; done) | skip)) | ((apply Xad rfl); (case h => ((first | (apply Xab 0 rfl; (first | exact Xar _ rfl | exact Xao _ rfl)) | (apply Xab 2 rfl; (exact XaL _ _ _ _ rfl rfl rfl)) | (apply Xab 5 rfl; (exact Xal _ _ _ _ _ _ rfl rfl Xa6.out)) | (apply Xab 6 rfl; (exact XaA _ _ _ _ _ _ _ _ rfl rfl XaZ.out XaO.out (by first | exact XuY rfl | fail) (by first | exact XuY rfl | fail))) | (apply Xab 11 rfl; (exact Xaz 27 Tryz.f27 _ _ rfl rfl Tryz.func27 (by decide) rfl (VwL.refl _ _) (hall))) | (apply XaF; (case hs => (intro _ _ h; cases h)); (case hx => rfl); (case hrun => (intro w; simp [wtb, AV.val, go_sem]; skip; rfl)))))); (case hT => ((try simp only [wtn]); rfl))) | (refine Xaj rfl ?_; ((first | (refine Xaq 14 rfl ?_; ((refine XaN _ _ rfl Xbp.out rfl (fun b => ?_)))) | (refine Xaq 16 rfl ?_; ((refine Xau _ _ _ _ _ _ _ rfl rfl XaZ.out XaR.out (by first | rfl | fail) (by first | exact XuY rfl | fail) ?_)))); apply Xak; (case hT => ((try simp only [wtn]); rfl)); (case hH => ((try simp only [wtn, Nat.reduceAdd]); rfl)))) | fail))
 refine XhK Xbd [2] ?_
 (first | refine Xbg 0 rfl rfl (by kernel_rfl) (by intro c T H hp; simp [XaP, Xas, XaV, Xbx] at hp) _ _ _ _ _ _ _ _ rfl rfl XaZ.out XaO.out (by first | exact XuY rfl | fail) (by first | exact XuY rfl | fail) ?_ | fail); (apply Xap; (case hT => ((try simp only [wtn, ↓reduceIte]); rfl)); (case hH => rfl)); (first | (apply XaJ 1 rfl rfl (by kernel_rfl) (by intro c T H hp; simp [XaP, Xas, XaV, Xbx] at hp); (case h => (exact Xgc _ rfl))) | fail); (apply Xap; (case hT => ((try simp only [wtn]); rfl)); (case hH => rfl))
 refine XbQ (by decide +kernel) ?_
 refine Xay rfl (by simp only [Xva, Xu9]; rfl) ?_
 (refine Xbr 2 (by decide +kernel) rfl rfl ?_; (first | (((refine Xaq 16 rfl ?_; ((refine Xau _ _ _ _ _ _ _ rfl rfl XaZ.out XaR.out (by first | rfl | fail) (by first | exact XuY rfl | fail) ?_)))); apply Xay; (case hT => ((try simp only [wtn]); rfl)); (case hH => ((try simp only [wtn, Nat.reduceAdd]); rfl))) | fail))
 refine Xa3 (by decide +kernel) ?_
 (repeat' (first | with_reducible (first | refine Xat ?_ | refine Xaa ?_ | refine Xaw ?_) | fail))
 refine Xaf _ _ (Xc2 rfl (RV.tmp _) (RV.cell 1 rfl rfl XaO.out (by simp) (by simp)) (XaK.mk' [_, _] [] (XuZ _) XaE.nil (VwL.cons Vw.nil (VwL.refl _ _)))) ?_
 exact ⟨rfl, rfl, hf0⟩
theorem Xnk {ts : List Tok} {k : Nat} {out : List JF} {f : Flt} (h : (tkA ts k).kind ≠ 6) (h2 : Xil ts k (decide (32 ≤ out.length)) = .error f) : Xd2 ts k out = .error f := by rw [Xd2, if_neg h, h2]
theorem Xl9 {ts : List Tok} {k : Nat} {out : List JF} {x : JF × Nat} (h : (tkA ts k).kind ≠ 6) (h2 : Xil ts k (decide (32 ≤ out.length)) = .ok x) (h3 : k < x.2 ∧ k < ts.length) : Xd2 ts k out = Xd2 ts x.2 (out ++ [x.1]) := by rw [Xd2, if_neg h, h2]; simp only; rw [dif_pos h3]
theorem Xoz {ts : List Tok} {k : Nat} {out : List JF} (h : (tkA ts k).kind = 6) : Xd2 ts k out = .ok out := by rw [Xd2, if_pos h]
theorem Got.no {α : Type} {ts : List Tok} {s s' : PS} {x : Except Flt (α × Nat)} {v : α} (h : Got ts s x s' v) (he : s.e = 0) (hb : s'.e ≠ 0) : ∃ f : Flt, x = .error f ∧ f.code ≠ 0 ∧ s'.e = f.code ∧ s'.l = f.line ∧ s'.c = f.col := by
 have h' := h.2.2.2 he
 cases x with
 | ok p => exfalso; rw [h'.2] at hb; exact hb rfl
 | error f => exact ⟨f, rfl, h'⟩
set_option maxRecDepth 100000 in
set_option maxHeartbeats 8000000 in
theorem XmW (s : List UInt8) (hl : s.length ≤ 1000000) (ts : List Tok) (hx : lex s = .ok ts) : Xa8 Tryz.prog 168 [] [.x (.string (bs s))] (fun r H' => r = Xug (Xdu s) ∧ H' = [] ∧ JOk (Xdu s)) := by
 have hall := XsP s hl
 obtain ⟨hp, hn, hv, -, hle⟩ := (Xdt s).2 ts hx
 obtain ⟨hN, hS⟩ := Xhe s ts hx
 have hN' := Lib.hid hN
 have hS' := Lib.hid hS
 clear hN hS
 have hg : Xdu s = Xd2 ts 0 [] := by simp only [Xdu, hx]
 rw [hg]
 rw [hx] at hall
 simp only [XdZ, XhF, Flt.av] at hall
 clear hx hg
 refine XaG Tryz.func168 rfl ?_
 simp only [Tryz.ntmps168, Xu2, Xu5, Xu6, Xu7, Xva, Xu9, Nat.reduceAdd, Nat.reduceSub]
 (repeat' (first | with_reducible (first | refine Xah ?_ | refine Xac ?_ | refine Xan ?_ | refine Xax ?_ | refine Xae ?_ | refine Xaa ?_) | (refine Xai _ rfl (fun h => ?_) (fun h => ?_) <;> first | (exact absurd h (by decide)) | ((try (simp only [] at h)); skip)) | ((apply Xad rfl); (case h => ((first | (apply Xab 0 rfl; (first | exact Xar _ rfl | exact Xao _ rfl)) | (apply Xab 2 rfl; (exact XaL _ _ _ _ rfl rfl rfl)) | (apply Xab 5 rfl; (exact Xal _ _ _ _ _ _ rfl rfl Xa6.out)) | (apply Xab 6 rfl; (exact XaA _ _ _ _ _ _ _ _ rfl rfl XaZ.out XaO.out (by first | exact XuY rfl | fail) (by first | exact XuY rfl | fail))) | (apply Xab 10 rfl; (exact XaU _ _ _ _ _ rfl HPl.out (by first | rfl | fail) rfl)) | (apply Xab 11 rfl; (exact Xaz 27 Tryz.f27 _ _ rfl rfl Tryz.func27 (by decide) rfl (VwL.refl _ _) (hall))) | (apply XaF; (case hs => (intro _ _ h; cases h)); (case hx => rfl); (case hrun => (intro w; simp [wtb, AV.val, go_sem]; skip; rfl)))))); (case hT => ((try simp only [wtn, ↓reduceIte]); rfl))) | (refine Xaj rfl ?_; ((first | (refine Xaq 14 rfl ?_; ((refine XaN _ _ rfl Xbp.out rfl (fun b => ?_)))) | (refine Xaq 15 rfl ?_; ((refine Xbt _ _ rfl (by first | rfl | fail) (fun b => ?_)))) | (refine Xaq 16 rfl ?_; ((refine Xau _ _ _ _ _ _ _ rfl rfl XaZ.out XaR.out (by first | rfl | fail) (by first | exact XuY rfl | fail) ?_)))); apply Xak; (case hT => ((try simp only [wtn]); rfl)); (case hH => ((try simp only [wtn, Nat.reduceAdd]); rfl)))) | fail))
 rename_i fb xb
 obtain ⟨pb, rfl⟩ : ∃ x, x = b := ⟨b, rfl⟩
 refine XbA 51 15 ?_
 apply XaT (S := Nat × Int × Int × Int × AV × List JF × Option Addr × Nat) (fun s => frm 41 [(3, .x (.pointer (some ⟨fb, 0, none⟩))), (6, .x (.pointer (some ⟨pb, 0, none⟩))), (7, .x (.slice s.2.2.2.2.2.2.1 s.2.2.2.2.2.1.length s.2.2.2.2.2.2.2))])
  (fun s => [.box pb (pc ts s.1 s.2.1 s.2.2.1 s.2.2.2.1 s.2.2.2.2.1), .row s.2.2.2.2.2.2.1 s.2.2.2.2.2.1.length s.2.2.2.2.2.2.2 51 15 (jfa s.2.2.2.2.2.1), .box fb [.x (.int .i64 0), .x (.int .i64 0), .x (.int .i64 0)]])
  (fun s => s.1 < ts.length ∧ s.2.1 = 0 ∧ s.2.2.2.2.1.one = true ∧ s.2.2.2.2.2.1.length ≤ s.1 ∧ (∀ j ∈ s.2.2.2.2.2.1, JB j ts.length) ∧ Xd2 ts s.1 s.2.2.2.2.2.1 = Xd2 ts 0 []) (fun s => ts.length - s.1) (0, 0, 0, 0, .x (.slice none 0 0), [], none, 0)
 case h0 => exact XaK.mk' [_] [.box pb _, .row none 0 0 _ _ _, .box fb _] (List.Perm.trans (l₂ := [.box pb _, .row none 0 0 _ _ _, .box fb _] ++ [_]) (by (repeat' (first | exact XuZ _ | refine Xvf _ ?_ | refine (Xvc (l₁ := [_])).trans (Xvf _ ?_) | fail))) List.perm_append_comm) (XaE.refl _ _) (by (repeat' (first | exact VwL.nil | (refine VwL.cons ?_ ?_) | exact Vw.refl _ | exact Vw.top _ | fail)))
 case hi => exact ⟨hp, rfl, rfl, Nat.zero_le _, by simp, rfl⟩
 rintro ⟨kk, ee, ll, cc, sv, js, ad, cap⟩ ⟨g1, rfl, g3, g4, g5, g6⟩
 simp only at g1 g3 g4 g5 g6
 have g5' := Lib.hid g5
 have g6' := Lib.hid g6
 clear g5 g6
 simp only [frm, Xu6, Xu7, Xu0, Xu1, Xvd, Xve]
 (repeat' (first | with_reducible (first | refine Xah ?_ | refine Xac ?_ | refine Xan ?_ | refine Xat ?_ | refine Xax ?_ | refine XaW ?_ | refine Xae ?_ | refine Xaa ?_ | refine XaM ?_ | refine XaI ?_ | refine Xag ?_) | (refine Xai _ rfl (fun h => ?_) (fun h => ?_) <;> ((try (simp only [whn] at h)); skip)) | ((apply Xad rfl); (case h => ((first | (apply Xab 0 rfl; (first | exact Xar _ rfl | exact Xao _ rfl)) | (apply Xab 6 rfl; (exact XaA _ _ _ _ _ _ _ _ rfl rfl XaZ.out XaO.out (by first | exact XuY rfl | fail) (by first | exact XuY rfl | fail))) | (apply Xab 10 rfl; (exact XaU _ _ _ _ _ rfl HPl.out (by first | rfl | fail) rfl)) | (apply Xab 11 rfl; (first | exact Xbb 187 Tryz.f187 _ _ rfl rfl Tryz.func187 (by decide) rfl (by (repeat' (first | exact VwL.nil | (refine VwL.cons ?_ ?_) | exact Vw.box (List.Mem.head _) (VwL.refl _ _) | fail)); done) (Xj9 ts kk _ _ _ _ g1 (by omega)) | exact Xbb 189 Tryz.f189 _ _ rfl rfl Tryz.func189 (by decide) rfl (by (repeat' (first | exact VwL.nil | (refine VwL.cons ?_ ?_) | exact Vw.box (List.Mem.tail _ (List.Mem.head _)) (VwL.refl _ _) | fail)); done) (Xca ts _ _ _ _ _))) | (apply Xab 12 rfl; (exact Xm6 _ _ _ _ _ _ _ rfl rfl HFv.out (by first | (simp; done) | fail) (by first | (simp; done) | fail))) | (apply XaF; (case hs => (intro _ _ h; cases h)); (case hx => rfl); (case hrun => (intro w; simp [wtb, AV.val, go_sem]; skip; rfl)))))); (case hT => ((try simp (disch := omega) only [wtn, pc, Tok.av, JF.cells, Xu3, Xu0, Xu1, Xu4, Xu8, Nat.reduceAdd, Nat.reduceMul, Nat.reduceSub, ↓reduceIte, Nat.reduceEqDiff]); rfl))) | (refine Xaj rfl ?_; ((first | (refine Xaq 11 rfl ?_; ((refine Xam 188 Tryz.f188 [_] _ _ _ rfl rfl Tryz.func188 (by decide) rfl (XuZ _) (VwL.refl _ _) (XtI _ ts kk _ _ sv g3 js.length g1 (by omega) hv hN'.out hS'.out) ?_; rintro _ _ ⟨j7, k7, e7, l7, c7, sv7, rfl, rfl, hsv7, q7, g7, w4, w5⟩))) | (refine Xaq 13 rfl ?_; ((refine XaH _ _ _ _ _ _ _ _ _ _ _ _ _ _ rfl rfl XbD.out (Src.row _ rfl XbD.out) XaQ.out (by first | rfl | fail) (XcD _ _ (by omega) (by decide)) (fun ad cap => ?_)))) | (refine Xaq 14 rfl ?_; ((refine XaN _ _ rfl Xbp.out rfl (fun b => ?_)))) | (refine Xaq 16 rfl ?_; ((refine Xau _ _ _ _ _ _ _ rfl rfl XaZ.out XaR.out (by first | rfl | fail) (by first | exact XuY rfl | fail) ?_))) | (refine Xaq 17 rfl ?_; ((refine XaB _ _ _ _ _ _ _ _ rfl XaQ.out (by first | rfl | fail) rfl (by decide) rfl (fun b => ?_))))); apply Xak; (case hT => ((try simp (disch := omega) only [wtn, pc, Tok.av, JF.cells, Xu3, Xu0, Xu1, Xu4, Xu8, Nat.reduceAdd, Nat.reduceMul, Nat.reduceSub, ↓reduceIte, Nat.reduceEqDiff]); rfl)); (case hH => ((try simp (disch := omega) only [wtn, pc, Tok.av, JF.cells, Xu3, Xu0, Xu1, Xu4, Xu8, Nat.reduceAdd, Nat.reduceMul, Nat.reduceSub, ↓reduceIte, Nat.reduceEqDiff]); rfl)))) | fail))
 ·have hk6 : ts[kk].kind ≠ 6 := by assumption
  obtain ⟨f, f1, f2, f3, f4, f5⟩ := g7.no rfl (by assumption)
  simp only at f3 f4 f5
  have hg : Xd2 ts 0 [] = .error f := g6'.out.symm.trans (Xnk (by rw [Xbo g1]; exact hk6) f1)
  rw [hg]
  clear g6'
  refine XhK Xbd [5] ?_
  (first | (apply XaJ 0 rfl rfl (by kernel_rfl) (by intro c T H hp; simp [XaP, Xas, XaV, Xbx] at hp); (case h => (exact Xbh _ rfl))) | fail); (apply Xap; (case hT => ((try simp only [wtn]); rfl)); (case hH => rfl)); (first | (apply XaJ 1 rfl rfl (by kernel_rfl) (by intro c T H hp; simp [XaP, Xas, XaV, Xbx] at hp); (case h => (exact Xck _ _ _ rfl rfl))) | fail); (apply Xap; (case hT => ((try simp only [wtn]); rfl)); (case hH => rfl)); (first | (apply XaJ 2 rfl rfl (by kernel_rfl) (by intro c T H hp; simp [XaP, Xas, XaV, Xbx] at hp); (case h => (exact XaY _ _ _ _ _ _ rfl rfl Xa6.out))) | fail); (apply Xap; (case hT => ((try simp only [wtn]); rfl)); (case hH => rfl)); (first | refine Xbg 3 rfl rfl (by kernel_rfl) (by intro c T H hp; simp [XaP, Xas, XaV, Xbx] at hp) _ _ _ _ _ _ _ _ rfl rfl XaZ.out XaO.out (by first | exact XuY rfl | fail) (by first | exact XuY rfl | fail) ?_ | fail); (apply Xap; (case hT => ((try simp only [wtn, ↓reduceIte]); rfl)); (case hH => rfl)); (first | (apply XaJ 4 rfl rfl (by kernel_rfl) (by intro c T H hp; simp [XaP, Xas, XaV, Xbx] at hp); (case h => (exact Xgc _ rfl))) | fail); (apply Xap; (case hT => ((try simp only [wtn]); rfl)); (case hH => rfl))
  refine XbQ (by decide +kernel) ?_
  refine Xay rfl (by simp only [Xva, Xu9]; rfl) ?_
  (refine Xbr 5 (by decide +kernel) rfl rfl ?_; (first | (((refine Xaq 16 rfl ?_; ((refine Xau _ _ _ _ _ _ _ rfl rfl XaZ.out XaR.out (by first | rfl | fail) (by first | exact XuY rfl | fail) ?_)))); apply Xay; (case hT => ((try simp only [wtn]); rfl)); (case hH => ((try simp only [wtn, Nat.reduceAdd]); rfl))) | fail))
  refine Xa3 (by decide +kernel) ?_
  (repeat' (first | with_reducible (first | refine Xat ?_ | refine Xaa ?_ | refine Xaw ?_ | refine Xav ?_) | fail))
  refine Xaf _ _ (Xc2 rfl (RV.tmp _) (RV.cell 3 rfl rfl XaO.out (by simp) (by simp)) (XaK.mk' [_, _, _, _] [] (XuZ _) XaE.nil (VwL.cons Vw.nil (VwL.refl _ _)))) ?_
  refine ⟨?_, rfl, f2⟩
  rw [f3, f4, f5]
  rfl
 ·have hk6 : ts[kk].kind ≠ 6 := by assumption
  have h0 : e7 = 0 := by assumption
  have h1 := w5 h0
  have hg := (g7.ok h0).2.1
  refine ⟨(k7, e7, l7, c7, sv7, js ++ [j7], ad, cap), by simp only; omega, ⟨q7, h0, hsv7, by simp only [Xvb, Xu2, Xu5]; omega, fun j hj => ?_, ?_⟩, ?_⟩
  ·rcases List.mem_append.1 hj with hj | hj
   ·exact g5'.out j hj
   ·rw [List.mem_singleton] at hj; subst hj; exact w4.mono (by omega)
  ·rw [← g6'.out]
   exact (Xl9 (x := (j7, k7)) (by rw [Xbo g1]; exact hk6) hg ⟨h1, g1⟩).symm
  ·simp only [Xrp, Xvb, Xu2, Xu5]
   exact XaK.mk' [_, _] [.box pb _, .row ad _ cap _ _ _, .box fb _] (List.Perm.trans (l₂ := [.box pb _, .row ad _ cap _ _ _, .box fb _] ++ [_, _]) (by (repeat' (first | exact XuZ _ | refine (Xvc (l₁ := [_, _])).trans (Xvf _ ?_) | fail))) List.perm_append_comm) (XaE.refl _ _) (by (repeat' (first | exact VwL.nil | (refine VwL.cons ?_ ?_) | exact Vw.refl _ | exact Vw.top _ | fail)))
 ·have hk6 : ts[kk].kind = 6 := by assumption
  have hg : Xd2 ts 0 [] = .ok js := g6'.out.symm.trans (Xoz (by rw [Xbo g1]; exact hk6))
  rw [hg]
  refine Xaf _ _ (Xc2 rfl (RV.tmp _) (RV.cell 2 rfl rfl XaO.out (by simp) (by simp)) (XaK.mk' [_, _, _] [] (XuZ _) XaE.nil (VwL.cons (Vw.row (List.Mem.tail _ (List.Mem.head _)) (VwL.refl _ _)) (VwL.refl _ _)))) ?_
  exact ⟨rfl, rfl, by omega, fun j hj => by obtain ⟨q1, q2, q3⟩ := g5'.out j hj; exact ⟨by omega, by omega, by omega⟩⟩
theorem XsO (s : List UInt8) (hl : s.length ≤ 1000000) : Xa8 Tryz.prog 168 [] [.x (.string (bs s))] (fun r H' => r = Xug (Xdu s) ∧ H' = [] ∧ JOk (Xdu s)) := by
 cases hx : lex s with
 | error f => exact Xmk s hl f hx
 | ok ts => exact XmW s hl ts hx
theorem Xc0 {α : Type} (f : α → List UInt8) (c : Nat) : ∀ l : List α, (∀ x ∈ l, (f x).length ≤ c) → (l.flatMap f).length ≤ c * l.length
 | [], _ => Nat.le_refl _
 | x :: l, h => by
  have h1 := h x (by simp)
  have h2 := Xc0 f c l fun y hy => h y (by simp [hy])
  rw [List.flatMap_cons, Xvb, Xu2, Nat.mul_succ]; omega
theorem Xps {j : JF} (h : XfB j) : (XeO j).length ≤ 900 := by
 obtain ⟨j1, j2, j3, j4, j5, j6, j7, j8, j9, j10, j11, j12, j13, j14⟩ := h
 have q1 := XcH j.run
 have q2 := Xfj j.ready
 have q3 := XeH j.restart
 have q4 := XdT j.base j10.2
 have q5 := XdT j.cap j11.2
 have q6 := XdT j.stable j12.2
 have q7 := XdT j.window j13.2
 have qb : U64 (if 0 < j.burst then j.burst else 0) := by unfold U64; have := j14.1; have := j14.2; split <;> omega
 have q8 := XdT _ qb.2
 have e1 : (Xl5 j.env).length ≤ 52 * j.env.length := Xc0 _ _ _ fun p hp => by
  obtain ⟨a, b⟩ := j4 p hp
  have := XcH p.2
  simp only [Xn0, Xvb, Xu2, Xu5]; omega
 have e2 : (XdQ j.needs).length ≤ 9 + 16 * j.needs.length := by
  unfold XdQ
  cases hn : j.needs with
  | nil => simp
  | cons x r =>
   rw [hn] at j6
   rw [if_neg (by simp)]
   have h1 := j6 x (by simp)
   have h2 : (r.flatMap Xd3).length ≤ 16 * r.length := Xc0 _ _ _ fun y hy => by
    have := j6 y (by simp [hy])
    simp only [Xd3, Xvb, Xu2, Xu5]; omega
   simp only [XfG, Xvb, Xu2, Xu5]; omega
 have e3 : (Xd6 j).length ≤ 11 + 2 * j.ready.length := by
  unfold Xd6
  split
  ·simp only [Xvb, Xu2, Xu5]; omega
  ·simp
 have e4 : (Xjq j.ladder).length ≤ 40 * j.ladder.length := by
  have hr : ∀ p ∈ j.ladder, (Xcs p).length ≤ 30 := fun p hp => by
   have h1 := XhJ p.1
   have h2 := XdT p.2 (j9 p hp).2
   simp only [Xcs, Xvb, Xu2, Xu5]; omega
  cases hn : j.ladder with
  | nil => simp [Xjq]
  | cons x r =>
   rw [hn] at hr
   have h1 := hr x (by simp)
   have h2 : (r.flatMap Xde).length ≤ 40 * r.length := Xc0 _ _ _ fun y hy => by
    have := hr y (by simp [hy])
    simp only [Xde, Xvb, Xu2, Xu5]; omega
   simp only [Xjq, Xvb, Xu2]; omega
 simp only [XeO, XgM, Xid, Xvb, Xu2, Xu5]; omega
theorem XtK : ∀ s ∈ Xpc, (Xc8 s).length ≤ 14 := by decide
theorem Xt5 : ∀ p ∈ Xow, (Xn0 p).length ≤ 30 := by decide
theorem XtW : ∀ s ∈ XmN, (XbU s).length ≤ 12 := by decide
theorem Xlo : ∀ s ∈ Xcp, s.length ≤ 1 := by decide
theorem Xmj (v : Int) (h0 : 0 ≤ v) (h1 : v ≤ 1000) : (XbT v.toNat).length ≤ 4 := Xef 3 v.toNat (Nat.lt_of_lt_of_le (show v.toNat < 10000 by omega) (by decide))
theorem JM.txt {j : JF} (hm : JM j) : (XeO j).length ≤ 270 := by
 obtain ⟨i, hi, h⟩ := hm
 obtain ⟨j1, j2, j3, j4, j5, j6, j7, j8, j9, j10, j11, j12, j13, j14⟩ := h.small
 have q1 := XtK _ h.run
 have q2 : (XbU j.ready).length ≤ 12 := by
  rcases h.ready with ⟨a, b⟩ | ⟨a, b⟩
  ·exact XtW _ b
  ·rw [b]; decide
 have q3 := XeH j.restart
 have q4 := Xmj j.base h.base.1 h.base.2
 have q5 := Xmj j.cap h.cap.1 h.cap.2
 have q6 := Xmj j.stable h.stable.1 h.stable.2
 have q7 := Xmj j.window h.window.1 h.window.2
 have qb : U64 (if 0 < j.burst then j.burst else 0) := by unfold U64; have := j14.1; have := j14.2; split <;> omega
 have hbu := h.burst
 have q8 := Xmj (if 0 < j.burst then j.burst else 0) (by split <;> omega) (by split <;> omega)
 have qn : j.name.length ≤ 1 := by rw [h.name]; exact Xlo _ (XeR Xcp [] i hi)
 have hns : ∀ s ∈ j.needs, s.length ≤ 1 := fun s hs => Xlo s (List.mem_of_mem_take (h.needs.subset hs))
 have e1 : (Xl5 j.env).length ≤ 30 * j.env.length := Xc0 _ _ _ fun p hp => by
  obtain ⟨v, hv, hE⟩ := h.env
  rw [hE] at hp
  exact Xt5 p (List.mem_of_mem_take hp)
 have e2 : (XdQ j.needs).length ≤ 9 + 3 * j.needs.length := by
  unfold XdQ
  cases hn : j.needs with
  | nil => simp
  | cons x r =>
   rw [hn] at hns
   rw [if_neg (by simp)]
   have h1 := hns x (by simp)
   have h2 : (r.flatMap Xd3).length ≤ 3 * r.length := Xc0 _ _ _ fun y hy => by
    have := hns y (by simp [hy])
    simp only [Xd3, Xvb, Xu2, Xu5]; omega
   simp only [XfG, Xvb, Xu2, Xu5]; omega
 have e3 : (Xd6 j).length ≤ 23 := by
  unfold Xd6
  split
  ·simp only [Xvb, Xu2, Xu5]; omega
  ·simp
 have e4 : (Xjq j.ladder).length ≤ 11 * j.ladder.length := by
  have hr : ∀ p ∈ j.ladder, (Xcs p).length ≤ 10 := fun p hp => by
   have h1 := XhJ p.1
   have h2 := Xmj p.2 (h.laddere p hp).2.1 (h.laddere p hp).2.2
   simp only [Xcs, Xvb, Xu2, Xu5]; omega
  cases hn : j.ladder with
  | nil => simp [Xjq]
  | cons x r =>
   rw [hn] at hr
   have h1 := hr x (by simp)
   have h2 : (r.flatMap Xde).length ≤ 11 * r.length := Xc0 _ _ _ fun y hy => by
    have := hr y (by simp [hy])
    simp only [Xde, Xvb, Xu2, Xu5]; omega
   simp only [Xjq, Xvb, Xu2]; omega
 have h3 := h.ladder.2
 simp only [XeO, XgM, Xid, Xvb, Xu2, Xu5]; omega
theorem XoO {l : List JF} (h : ∀ j ∈ l, JM j) : (l.flatMap XeO).length ≤ 270 * l.length := Xc0 _ _ _ fun j hj => (h j hj).txt
theorem Xp2 {l : List JF} (h : ∀ j ∈ l, XfB j) : (l.flatMap XeO).length ≤ 900 * l.length := Xc0 _ _ _ fun j hj => Xps (h j hj)
set_option maxRecDepth 100000 in
set_option maxHeartbeats 8000000 in
theorem Xtq (l : List JF) (hl : l.length ≤ 8) (hj : ∀ j ∈ l, XfB j) : Xa8 Tryz.prog 167 [] [.sq l.length (jfa l)] (fun r H' => r = .x (.string (bs (l.flatMap XeO))) ∧ H' = [] ∧ (l.flatMap XeO).length ≤ 900 * l.length) := by
 have hj' := Lib.hid hj
 clear hj
 refine XaG Tryz.func167 rfl ?_
 simp only [Tryz.ntmps167, Xu2, Xu5, Xu6, Xu7, Xva, Xu9, Nat.reduceAdd, Nat.reduceSub]
 (repeat' (first | with_reducible (first | refine Xah ?_ | refine Xac ?_ | refine Xan ?_ | refine Xae ?_ | refine Xaa ?_) | ((apply Xad rfl); (case h => (((apply Xab 0 rfl; (exact Xao _ rfl))))); (case hT => ((try simp only [wtn]); rfl))) | fail))
 apply XaT (S := Nat × List UInt8) (fun q => frm 19 [(0, .sq l.length (jfa l)), (3, .x (.string (bs q.2))), (4, .x (.int .i64 q.1))]) (fun _ => []) (fun q => q.1 ≤ l.length ∧ q.2.length ≤ 900 * q.1 ∧ q.2 = (l.take q.1).flatMap XeO) (fun q => l.length - q.1) (0, _)
 case h0 => exact (XaK.mk' [] _ (XuZ _) (XaE.refl _ _) (by (repeat' (first | exact VwL.nil | (refine VwL.cons ?_ ?_) | exact Vw.refl _ | exact Vw.top _ | fail))))
 case hi => exact ⟨Nat.zero_le _, by simp; done, by simp; done⟩
 rintro ⟨i, s⟩ ⟨hi, hs, he⟩
 simp only at hi hs he
 have he' := Lib.hid he
 clear he
 simp only [frm, Xu6, Xu7, Xu0, Xu1, Xvd, Xve]
 by_cases hlt : i < l.length
 ·have hp := hj'.out l[i] (List.getElem_mem hlt)
  (repeat' (first | with_reducible (first | refine Xah ?_ | refine Xac ?_ | refine Xan ?_ | refine Xax ?_ | refine Xae ?_ | refine Xaa ?_ | refine Xag ?_) | (refine Xai _ rfl (fun h => ?_) (fun h => ?_) <;> ((try (simp only [whn] at h)); first | (exfalso; omega; done) | skip)) | ((apply Xad rfl); (case h => ((first | (apply Xab 0 rfl; (first | exact Xar _ rfl | exact Xao _ rfl)) | (apply Xab 3 rfl; (exact XaX _ _ _ _ _ _ HEl.out rfl rfl)) | (apply Xab 6 rfl; (exact XaD _ _ _ _ _ rfl rfl XaO.out (by first | exact XuY rfl | fail) (by first | exact XuY rfl | fail))) | (apply Xab 7 rfl; (exact XaC _ _ _ _ _ _ _ _ _ _ rfl rfl rfl HEl.out rfl (by first | omega | fail) (by simp; first | omega | fail))) | (apply Xab 12 rfl; (exact Xbq _ _ _ _ rfl rfl rfl (by omega))) | (apply XaF; (case hs => (intro _ _ h; cases h)); (case hx => rfl); (case hrun => (intro w; simp [wtb, AV.val, go_sem]; (try go_bits); rfl)))))); (case hT => ((try simp (disch := assumption) only [wtn, Xe8, Xu3, Xu0, Xu1, Xu4, Xu8, Nat.reduceAdd, Nat.reduceMul, Nat.reduceSub, ↓reduceIte, Nat.reduceEqDiff]); rfl))) | (refine Xaj rfl ?_; (((refine Xaq 11 rfl ?_; ((refine Xam 186 Tryz.f186 ([]) _ _ _ rfl rfl Tryz.func186 (by decide) rfl (XuZ _) (VwL.refl _ _) (Xsk l[i] hp) ?_; rintro _ _ ⟨rfl, rfl, ht⟩)))); apply Xak; (case hT => ((try simp (disch := omega) only [wtn, Xe8, Xu3, Xu0, Xu1, Xu4, Xu8, Nat.reduceAdd, Nat.reduceMul, Nat.reduceSub, ↓reduceIte, Nat.reduceEqDiff]); rfl)); (case hH => ((try simp (disch := omega) only [wtn, Xe8, Xu3, Xu0, Xu1, Xu4, Xu8, Nat.reduceAdd, Nat.reduceMul, Nat.reduceSub, ↓reduceIte, Nat.reduceEqDiff]); rfl)))) | fail))
  exact ⟨(i + 1, s ++ XeO l[i]), by simp only; omega, ⟨by simp only; omega, by simp; omega, by simp only; rw [he'.out, Xa4 l i hlt]; simp only [List.flatMap_append, List.flatMap_cons, List.flatMap_nil, List.append_nil]⟩, (XaK.mk' [] _ (XuZ _) (XaE.refl _ _) (by (repeat' (first | exact VwL.nil | (refine VwL.cons ?_ ?_) | exact Vw.refl _ | exact Vw.top _ | fail))))⟩
 ·have he := he'.out
  rw [List.take_of_length_le (by omega)] at he
  (repeat' (first | with_reducible (first | refine Xah ?_ | refine Xac ?_ | refine Xat ?_ | refine XaW ?_ | refine Xae ?_ | refine Xaa ?_ | refine XaM ?_ | refine XaI ?_) | (refine Xai _ rfl (fun h => ?_) (fun h => ?_) <;> ((try (simp only [whn] at h)); first | (exfalso; omega; done) | skip)) | ((apply Xad rfl); (case h => ((first | (apply Xab 0 rfl; (first | exact Xar _ rfl | exact Xao _ rfl)) | (apply Xab 3 rfl; (exact XaX _ _ _ _ _ _ HEl.out rfl rfl)) | (apply XaF; (case hs => (intro _ _ h; cases h)); (case hx => rfl); (case hrun => (intro w; simp [wtb, AV.val, go_sem]; skip; rfl)))))); (case hT => ((try simp only [wtn]); rfl))) | fail))
  refine Xaf _ _ (Xbl rfl (RV.tmp _) (XaK.mk' [] [] (XuZ _) (XaE.refl _ _) (by first | exact VwL.refl _ _ | fail))) ?_
  exact ⟨by rw [← he]; rfl, rfl, by rw [← he]; omega⟩
theorem RL.same : ∀ {l m : List JF}, RL l m → ((m.zip l).all fun p => XeK p.1 p.2) = true
 | [], [], _ => rfl
 | a :: l, b :: m, h => by
  obtain ⟨⟨x, y, rfl⟩, h2⟩ := h
  simp only [List.zip_cons_cons, List.all_cons, RL.same h2, Bool.and_true]
  simp [XeK]
 | [], b :: m, h => h.elim
 | a :: l, [], h => h.elim
theorem RL.sameJs {l m : List JF} (h : RL l m) : sameJs m l = true := by unfold Go.Proofs.YtdpobjakdplljaaGreatDoor.sameJs; rw [decide_eq_true h.len, h.same]; rfl
theorem XlT (l : List JF) (hl : l.length ≤ 4) (hj : ∀ j ∈ l, JM j) (hb : (l.flatMap XeO).length ≤ 8192) : ∃ l', RL l l' ∧ Xdu (l.flatMap XeO) = .ok l' :=
 XnK l (fun j h => (hj j h).good) (by omega) (by have := Xiu l hj; omega) hb
theorem RL.jbs {l m : List JF} (h : RL l m) (hj : ∀ j ∈ l, XfB j) (hl : l.length ≤ 4) : JBs m := by
 refine ⟨by rw [h.len]; omega, ?_⟩
 clear hl
 induction l generalizing m with
 | nil => cases m with
  | nil => simp
  | cons b m => exact h.elim
 | cons a l ih => cases m with
  | nil => exact h.elim
  | cons b m =>
   obtain ⟨⟨x, y, rfl⟩, h2⟩ := h
   intro j hm
   rcases List.mem_cons.1 hm with rfl | hm
   ·have := hj a (by simp)
    have h1 := this.env; have h2 := this.needs; have h3 := this.ladder
    exact ⟨by simp only; omega, by simp only; omega, by simp only; omega⟩
   ·exact ih h2 (fun q hq => hj q (by simp [hq])) j hm
set_option maxRecDepth 100000 in
set_option maxHeartbeats 8000000 in
theorem XrN (l : List JF) (hl : l.length ≤ 4) (hj : ∀ j ∈ l, JM j) : Xa8 Tryz.prog 134 [] [.sq l.length (jfa l)] (fun r H' => r = .tup [.x (.string (bs (l.flatMap XeO))), .x (.int .i64 0)] ∧ H' = [] ∧ (l.flatMap XeO).length ≤ 270 * l.length) := by
 have hb4 := XoO hj
 have hS : ∀ j ∈ l, XfB j := fun j h => by obtain ⟨i, _, h⟩ := hj j h; exact h.small
 have hb : (l.flatMap XeO).length ≤ 8192 := by have := Xp2 hS; omega
 obtain ⟨m, hm, hg⟩ := XlT l hl hj hb
 have hp := XsO (l.flatMap XeO) (by omega)
 rw [hg] at hp
 simp only [Xug] at hp
 have h13 := Xl4 m l (hm.jbs hS hl)
 rw [hm.sameJs] at h13
 have hT := Xtq l (by omega) hS
 clear hj hS hm hg
 generalize l.flatMap XeO = s at *
 refine XaG Tryz.func134 rfl ?_
 simp only [Tryz.ntmps134, Xu2, Xu5, Xu6, Xu7, Xva, Xu9, Nat.reduceAdd, Nat.reduceSub]
 (repeat' (first | with_reducible (first | refine Xah ?_ | refine Xac ?_ | refine Xat ?_ | refine Xax ?_ | refine Xae ?_ | refine Xaa ?_) | (refine Xai _ rfl (fun h => ?_) (fun h => ?_) <;> first | (exact absurd h (by decide)) | ((try (simp only [whn] at h)); first | (exfalso; omega; done) | skip)) | ((first | apply Xad rfl | apply Xa7 _ _ rfl rfl rfl); (case h => ((try (intro (hp : (_ : Bool) = true); ((try simp only [Bool.not_eq_true'] at hp); skip; skip))); (first | (apply Xab 0 rfl; (first | exact Xar _ rfl | exact Xao _ rfl)) | (apply Xab 1 rfl; (exact XbE _ _ _ rfl rfl)) | (apply Xab 2 rfl; (exact XaL _ _ _ _ rfl rfl rfl)) | (apply Xab 5 rfl; (exact Xal _ _ _ _ _ _ rfl rfl Xa6.out)) | (apply Xab 6 rfl; (exact XaA _ _ _ _ _ _ _ _ rfl rfl XaZ.out XaO.out (by first | exact XuY rfl | fail) (by first | exact XuY rfl | fail))) | (apply Xab 11 rfl; (exact Xaz 21 Tryz.f21 _ _ rfl rfl Tryz.func21 (by decide) rfl (VwL.refl _ _) (h13))) | (apply XaF; (case hs => (intro _ _ h; cases h)); (case hx => rfl); (case hrun => (intro w; simp [wtb, AV.val, go_sem]; skip; rfl)))))); (case hT => ((try simp only [wtn]); rfl))) | (refine Xaj rfl ?_; ((first | (refine Xaq 11 rfl ?_; (first | (refine Xam 167 Tryz.f167 ([]) _ _ _ rfl rfl Tryz.func167 (by decide) rfl (XuZ _) (VwL.refl _ _) (hT) ?_; rintro _ _ ⟨rfl, rfl, hs⟩) | (refine Xam 168 Tryz.f168 ([]) _ _ _ rfl rfl Tryz.func168 (by decide) rfl (XuZ _) (VwL.refl _ _) (hp) ?_; rintro _ _ ⟨rfl, rfl, hjk⟩))) | (refine Xaq 14 rfl ?_; ((refine XaN _ _ rfl Xbp.out rfl (fun b => ?_)))) | (refine Xaq 16 rfl ?_; ((refine Xau _ _ _ _ _ _ _ rfl rfl XaZ.out XaR.out (by first | rfl | fail) (by first | exact XuY rfl | fail) ?_)))); apply Xak; (case hT => ((try simp only [wtn]); rfl)); (case hH => ((try simp only [wtn, Nat.reduceAdd]); rfl)))) | fail))
 refine Xaf _ _ (Xc2 rfl (RV.tmp _) (RV.tmp _) (XaK.mk' [_] [] (XuZ _) XaE.nil (VwL.refl _ _))) ?_
 exact ⟨rfl, rfl, hb4⟩
end Go.Proofs.YtdpobjakdplljaaGreatDoor
