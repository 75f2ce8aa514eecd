import Derived.Test.YtdpobjakdplljaaGreatDoorW11
import Derived.Test.YtdpobjakdplljaaGreatDoorW8
import Derived.Test.YtdpobjakdplljaaGreatDoorRows
import Derived.Test.YtdpobjakdplljaaGreatDoorW0
import Derived.Lib.AppendZeros
import Derived.Test.YtdpobjakdplljaaGreatDoorW2
/- Of the tokens of a text: how Xce unfolds. No program in sight. -/
set_option linter.unusedSimpArgs false
set_option linter.unusedVariables false
namespace Go.Proofs.YtdpobjakdplljaaGreatDoor
open Go.RowKit
theorem XcR (p : Nat × Nat) (n : Nat) (l : List UInt8) (h : l.drop (skp l) = []) : Xce p n l = .ok [⟨6, [], (plc p l).1, (plc p l).2⟩] := by
 rw [Xce]
 split
 ·rfl
 ·rename_i h2; rw [h] at h2; cases h2
theorem XdC (p : Nat × Nat) (n : Nat) (l : List UInt8) (c : UInt8) (r : List UInt8) (e : Int) (h : l.drop (skp l) = c :: r) (h1 : one (c :: r) = .error e) : Xce p n l = .error ⟨e, (plc p (l.take (skp l))).1, (plc p (l.take (skp l))).2⟩ := by
 rw [Xce]
 split
 ·rename_i h2; rw [h] at h2; cases h2
 ·rename_i c' r' h2
  rw [h] at h2; cases h2
  rw [h1]
theorem Xc7 (p : Nat × Nat) (n : Nat) (l : List UInt8) (c : UInt8) (r : List UInt8) (x : Int × List UInt8 × Nat) (h : l.drop (skp l) = c :: r) (h1 : one (c :: r) = .ok x) (hn : 2000 ≤ n) : Xce p n l = .error ⟨1, (plc p (l.take (skp l))).1, (plc p (l.take (skp l))).2⟩ := by
 rw [Xce]
 split
 ·rename_i h2; rw [h] at h2; cases h2
 ·rename_i c' r' h2
  rw [h] at h2; cases h2
  rw [h1]
  simp only [if_pos hn]
theorem Xc9 (p : Nat × Nat) (n : Nat) (l : List UInt8) (c : UInt8) (r : List UInt8) (k : Int) (t : List UInt8) (m : Nat) (h : l.drop (skp l) = c :: r) (h1 : one (c :: r) = .ok (k, t, m)) (hm : 1 ≤ m) (hn : n < 2000) :
  Xce p n l = (Xce (plc p (l.take (skp l + m))) (n + 1) ((c :: r).drop m)).map (⟨k, t, (plc p (l.take (skp l))).1, (plc p (l.take (skp l))).2⟩ :: ·) := by
 rw [Xce]
 split
 ·rename_i h2; rw [h] at h2; cases h2
 ·rename_i c' r' h2
  rw [h] at h2; cases h2
  rw [h1]
  simp only [if_neg (show ¬ 2000 ≤ n by omega), show max m 1 = m from by omega]
theorem Xf1 (p : Nat × Nat) (a b : List UInt8) : plc p (a ++ b) = plc (plc p a) b := by
 induction a generalizing p with
 | nil => rfl
 | cons c a ih => simp only [Xva, plc]; exact ih _
theorem XfC (l : List UInt8) (k s : Nat) : plc (plc (1, 1) (l.take k)) ((l.drop k).take s) = plc (1, 1) (l.take (k + s)) := by
 rw [← Xf1, ← List.take_add]
theorem Xr1 (l : List UInt8) : skp l ≤ l.length := by
 induction h : l.length using Nat.strongRecOn generalizing l with
 | _ n ih =>
  cases l with
  | nil => simp [Xgj]
  | cons c r =>
   by_cases h1 : c.toNat = 32 ∨ c.toNat = 9 ∨ c.toNat = 10 ∨ c.toNat = 13
   ·rw [Xfc c r h1]
    have := ih r.length (by simp at h; omega) r rfl
    simp at h; omega
   ·by_cases h2 : c.toNat = 35
    ·rw [Xkh c r h2]
     have h3 := Xft c r (by omega)
     have := ih ((c :: r).drop (cmt (c :: r))).length (by simp at h ⊢; omega) _ rfl
     have h4 := Xq8 (c :: r)
     rw [List.length_drop] at this
     omega
    ·rw [Xlh c r h1 h2]; exact Nat.zero_le _
theorem XfD {l : List UInt8} {x : Int × List UInt8 × Nat} (h : one l = .ok x) : 1 ≤ x.2.2 ∧ x.2.2 ≤ l.length ∧ x.2.1.length ≤ l.length ∧ x.1 ≠ 6 := by
 cases l with
 | nil => simp [one] at h
 | cons c r =>
  have hs := fun p => Xhb p (c :: r)
  simp only [one] at h
  split at h
  ·cases h
   rename_i hc
   have := XeD Xcq c r (by simp [Xcq, hc])
   refine ⟨by simp only; omega, hs _, by simp only [List.length_take]; omega, by simp⟩
  ·split at h
   ·rename_i hc
    have := XeD Xbk c r hc
    split at h
    ·cases h
    ·cases h; refine ⟨by simp only; omega, hs _, by simp only [List.length_take]; omega, by simp⟩
   ·split at h
    ·cases hq : quo r with
     | none => rw [hq] at h; cases h
     | some y =>
      rw [hq] at h; cases h
      have := Xof r y hq
      simp only [Xu2]
      refine ⟨by omega, by omega, by omega, by simp⟩
    ·split at h
     ·cases hq : sla r with
      | none => rw [hq] at h; cases h
      | some y =>
       rw [hq] at h; cases h
       have := Xjb r y hq
       simp only [Xu2]
       refine ⟨by omega, by omega, by omega, by simp⟩
     ·split at h
      ·cases h; simp
      ·cases h
structure Xjd (l : List UInt8) (k : Nat) (ts : List Tok) : Prop where
 le : k ≤ l.length
 cnt : ts.length ≤ 2000
 eq : Xce (1, 1) 0 l = (Xce (plc (1, 1) (l.take k)) ts.length (l.drop k)).map (ts ++ ·)
theorem XdO {ε α : Type} (x : Except ε α) (f : α → α) (h : ∀ a, f a = a) : x.map f = x := by cases x <;> simp [Except.map, h]
theorem Xjd.start (l : List UInt8) : Xjd l 0 [] where
 le := Nat.zero_le _
 cnt := Nat.zero_le _
 eq := by simp [plc, XdO]
section
variable {l : List UInt8} {k : Nat} {ts : List Tok}
def nxk (l : List UInt8) (k : Nat) : Nat := k + skp (l.drop k)
theorem Xrf (h : k ≤ l.length) : nxk l k ≤ l.length := by
 have := Xr1 (l.drop k)
 rw [List.length_drop] at this
 unfold nxk; omega
theorem Xjd.fin (h : Xjd l k ts) (he : l.length ≤ nxk l k) : Xce (1, 1) 0 l = .ok (ts ++ [⟨6, [], (plc (1, 1) (l.take (nxk l k))).1, (plc (1, 1) (l.take (nxk l k))).2⟩]) := by
 have hd : (l.drop k).drop (skp (l.drop k)) = [] := by
  rw [List.drop_drop]; exact List.drop_eq_nil_of_le (by unfold nxk at he; omega)
 rw [h.eq, XcR _ _ _ hd]
 have : plc (plc (1, 1) (l.take k)) (l.drop k) = plc (1, 1) (l.take (nxk l k)) := by
  have h2 := XfC l k (l.length - k)
  rw [List.take_of_length_le (show (l.drop k).length ≤ l.length - k by rw [List.length_drop]; exact Nat.le_refl _), List.take_of_length_le (show l.length ≤ k + (l.length - k) by omega)] at h2
  rw [h2, List.take_of_length_le he]
 rw [this]; rfl
theorem Xjd.cons (h : Xjd l k ts) (he : nxk l k < l.length) : ∃ c r, l.drop (nxk l k) = c :: r ∧ (l.drop k).drop (skp (l.drop k)) = c :: r := by
 refine ⟨l[nxk l k], l.drop (nxk l k + 1), List.drop_eq_getElem_cons he, ?_⟩
 rw [List.drop_drop]; exact List.drop_eq_getElem_cons he
theorem Xjd.bad (h : Xjd l k ts) {c : UInt8} {r : List UInt8} (hc : (l.drop k).drop (skp (l.drop k)) = c :: r) {e : Int} (h1 : one (c :: r) = .error e) : Xce (1, 1) 0 l = .error ⟨e, (plc (1, 1) (l.take (nxk l k))).1, (plc (1, 1) (l.take (nxk l k))).2⟩ := by
 rw [h.eq, XdC _ _ _ c r e hc h1, XfC]; rfl
theorem Xjd.full (h : Xjd l k ts) {c : UInt8} {r : List UInt8} (hc : (l.drop k).drop (skp (l.drop k)) = c :: r) {x : Int × List UInt8 × Nat} (h1 : one (c :: r) = .ok x) (hn : 2000 ≤ ts.length) : Xce (1, 1) 0 l = .error ⟨1, (plc (1, 1) (l.take (nxk l k))).1, (plc (1, 1) (l.take (nxk l k))).2⟩ := by
 rw [h.eq, Xc7 _ _ _ c r x hc h1 hn, XfC]; rfl
theorem Xjd.next (h : Xjd l k ts) {c : UInt8} {r : List UInt8} (hc : (l.drop k).drop (skp (l.drop k)) = c :: r) {a : Int} {t : List UInt8} {m : Nat} (h1 : one (c :: r) = .ok (a, t, m)) (hn : ts.length < 2000) :
  Xjd l (nxk l k + m) (ts ++ [⟨a, t, (plc (1, 1) (l.take (nxk l k))).1, (plc (1, 1) (l.take (nxk l k))).2⟩]) := by
 obtain ⟨g1, g2, g3, g4⟩ := XfD h1
 simp only at g1 g2
 have hlen := congrArg List.length hc
 simp only [List.length_drop] at hlen
 have hle := h.le
 refine ⟨by unfold nxk; omega, by simp; omega, ?_⟩
 rw [h.eq, Xc9 _ _ _ c r a t m hc h1 g1 hn, XfC, XfC]
 have e1 : (c :: r).drop m = l.drop (nxk l k + m) := by rw [← hc, List.drop_drop, List.drop_drop]; congr 1; unfold nxk; omega
 rw [e1, show k + (skp (l.drop k) + m) = nxk l k + m from by unfold nxk; omega]
 simp only [Xvb, Xu2, Xu5, Nat.zero_add]
 cases Xce (plc (1, 1) (l.take (nxk l k + m))) (ts.length + 1) (l.drop (nxk l k + m)) with
 | error e => rfl
 | ok y => simp only [Except.map, nxk, List.append_assoc, List.singleton_append]
end
theorem XfS : ∀ (n : Nat) (p : Nat × Nat) (i : Nat) (l : List UInt8) (ts : List Tok), l.length ≤ n → Xce p i l = .ok ts → ∃ qs e, ts = qs ++ [e] ∧ e.kind = 6 ∧ (∀ t ∈ qs, t.kind ≠ 6) ∧ ∀ t ∈ ts, t.text.length ≤ l.length
 | n, p, i, l, ts, hn, h => by
  cases hd : l.drop (skp l) with
  | nil =>
   rw [XcR p i l hd] at h; cases h
   exact ⟨[], _, rfl, rfl, by simp, by simp⟩
  | cons c r =>
   have hlen := congrArg List.length hd
   simp only [List.length_drop, Xu2] at hlen
   cases h1 : one (c :: r) with
   | error e => rw [XdC p i l c r e hd h1] at h; cases h
   | ok x =>
    by_cases hi : 2000 ≤ i
    ·rw [Xc7 p i l c r x hd h1 hi] at h; cases h
    ·obtain ⟨a, t, m⟩ := x
     obtain ⟨g1, g2, g3, g4⟩ := XfD h1
     simp only at g1 g2 g3 g4
     rw [Xc9 p i l c r a t m hd h1 g1 (by omega)] at h
     cases hr : Xce (plc p (l.take (skp l + m))) (i + 1) ((c :: r).drop m) with
     | error e => rw [hr] at h; cases h
     | ok y =>
      rw [hr] at h
      simp only [Except.map] at h
      cases h
      cases n with
      | zero => omega
      | succ n =>
       obtain ⟨qs, e, rfl, he, has, ht⟩ := XfS n _ _ _ y (by simp only [List.length_drop, Xu2]; omega) hr
       refine ⟨_ :: qs, e, rfl, he, ?_, ?_⟩
       ·intro t ht
        rcases List.mem_cons.1 ht with rfl | ht
        ·exact g4
        ·exact has t ht
       ·intro t ht2
        rcases List.mem_cons.1 ht2 with rfl | ht2
        ·show t.length ≤ l.length
         rw [Xu2] at g3; omega
        ·have := ht t ht2
         rw [List.length_drop, Xu2] at this; omega
open Go.RowKit
section
variable (t : List UInt8)
end
theorem Xoj (y x : List UInt8) (p : Nat × Nat) (n : Nat) (h : skp (y ++ x) = y.length + skp x) : Xce p n (y ++ x) = Xce (plc p y) n x := by
 have hdr : (y ++ x).drop (skp (y ++ x)) = x.drop (skp x) := by
  rw [h, List.drop_append, List.drop_eq_nil_of_le (by omega), Xu9]; congr 1; omega
 have hpl : ∀ k, plc p ((y ++ x).take (skp (y ++ x) + k)) = plc (plc p y) (x.take (skp x + k)) := fun k => by
  rw [← Xf1, h, List.take_append, List.take_of_length_le (by omega)]; congr 2; congr 1; omega
 have hp0 := hpl 0
 simp only [Nat.add_zero] at hp0
 cases ht : x.drop (skp x) with
 | nil => rw [XcR _ _ _ (hdr.trans ht), XcR _ _ _ ht, ← Xf1]
 | cons c r =>
  cases h1 : one (c :: r) with
  | error e => rw [XdC _ _ _ c r e (hdr.trans ht) h1, XdC _ _ _ c r e ht h1, hp0]
  | ok z =>
   by_cases hn : 2000 ≤ n
   ·rw [Xc7 _ _ _ c r z (hdr.trans ht) h1 hn, Xc7 _ _ _ c r z ht h1 hn, hp0]
   ·obtain ⟨a, b, q⟩ := z
    have g := XfD h1
    rw [Xc9 _ _ _ c r a b q (hdr.trans ht) h1 g.1 (by omega), Xc9 _ _ _ c r a b q ht h1 g.1 (by omega), hpl, hp0]
def PL (a b : Nat × Nat) : Prop := a.1 < b.1 ∨ a.1 = b.1 ∧ a.2 < b.2
theorem PL.tr {a b c : Nat × Nat} (h : PL a b) (k : PL b c) : PL a c := by unfold PL at *; omega
def Asc (q : Nat × Nat) : List Tok → Prop
 | [] => True
 | t :: ts => PL q (t.line, t.col) ∧ Asc (t.line, t.col) ts
theorem Asc.get : ∀ {ts : List Tok} {q : Nat × Nat}, Asc q ts → ∀ (k : Nat) (h : k + 1 < ts.length), PL (ts[k].line, ts[k].col) (ts[k + 1].line, ts[k + 1].col)
 | [], _, _, k, h => by simp at h
 | [t], _, _, k, h => by simp at h
 | t :: u :: ts, q, hA, 0, h => hA.2.1
 | t :: u :: ts, q, hA, k + 1, h => Asc.get hA.2 k (by simpa using h)
def TR (d : Nat) (c : Bool) (x y : Tok) : Prop := y.kind = x.kind ∧ y.text = x.text ∧ y.line = x.line + d ∧ (c = true → y.col = x.col)
def TRs (d : Nat) (c : Bool) : List Tok → List Tok → Prop
 | [], [] => True
 | x :: xs, y :: ys => TR d c x y ∧ TRs d c xs ys
 | _, _ => False
theorem TRs.len {d : Nat} {c : Bool} : ∀ {xs ys : List Tok}, TRs d c xs ys → ys.length = xs.length
 | [], [], _ => rfl
 | x :: xs, y :: ys, h => by simp [TRs.len h.2]
 | [], y :: ys, h => h.elim
 | x :: xs, [], h => h.elim
theorem TRs.get {d : Nat} {c : Bool} : ∀ {xs ys : List Tok}, TRs d c xs ys → ∀ (k : Nat) (h1 : k < xs.length) (h2 : k < ys.length), TR d c xs[k] ys[k]
 | [], [], _, k, h1, _ => by simp at h1
 | x :: xs, y :: ys, h, 0, _, _ => h.1
 | x :: xs, y :: ys, h, k + 1, h1, h2 => TRs.get h.2 k (by simpa using h1) (by simpa using h2)
 | [], y :: ys, h, _, _, _ => h.elim
 | x :: xs, [], h, _, _, _ => h.elim
open Go.RowKit
def Xom : List UInt8 := [48, 49, 50, 51, 52, 53, 54, 55, 56, 57, 97, 98, 99, 100, 101, 102]
def XiE (b : UInt8) : List UInt8 := if b.toNat = 34 ∨ b.toNat = 92 then [92, b] else if b.toNat = 10 then [92, 110] else if b.toNat = 9 then [92, 116] else if b.toNat < 32 ∨ b.toNat = 127 then [92, 120, Xom.getD (b.toNat / 16) 0, Xom.getD (b.toNat % 16) 0] else [b]
def Xg5 (s : List UInt8) : List UInt8 := 34 :: s.flatMap XiE
def Xc8 (s : List UInt8) : List UInt8 := Xg5 s ++ [34]
theorem XpT (b : UInt8) : (XiE b).length ≤ 4 := by
 unfold XiE
 repeat' (first | (split) | (simp; done) | fail)
theorem Xlv (s : List UInt8) : (Xg5 s).length ≤ 4 * s.length + 1 := by
 unfold Xg5
 rw [Xu2]
 induction s with
 | nil => simp
 | cons b s ih => have := XpT b; simp only [List.flatMap_cons, Xvb, Xu2] at ih ⊢; omega
theorem XoK (s : List UInt8) (k : Nat) (h : k < s.length) : Xg5 (s.take (k + 1)) = Xg5 (s.take k) ++ XiE s[k] := by
 unfold Xg5; rw [Xa4 s k h, List.flatMap_append, Xva]; simp
theorem Xp0 : Xom.length = 16 := rfl
theorem Xe7 (n : Nat) : (n : Int) / 16 = ((n / 16 : Nat) : Int) := rfl
theorem Xfa (n : Nat) : (n : Int) % 16 = ((n % 16 : Nat) : Int) := rfl
theorem Src.bytes {ρ : Operand → AV} {H : List Hp} {x : Operand} (q : Nat) (l : List UInt8) {ad : Option Addr} {n cap : Nat} {e : TypeId} {size : Nat} {cells : List AV} (hx : ρ x = .x (.slice ad n cap)) (hq : H[q]? = some (.row ad n cap e size cells)) (hn : n = l.length) (hc : cells = u8a l) : Src ρ H x l.length (u8a l) := by
 subst hn hc; exact Src.row q hx hq
set_option maxRecDepth 100000 in
set_option maxHeartbeats 8000000 in
theorem Xkd (s : List UInt8) (hl : s.length ≤ 1000000) : Xa8 Tryz.prog 69 [] [.x (.string (bs s))] (fun r H' => r = .x (.string (bs (Xc8 s))) ∧ H' = []) := by
 refine XaG Tryz.func69 rfl ?_
 simp only [Tryz.ntmps69, Xu2, Xu5, Xu6, Xu7, Xva, Xu9, Nat.reduceAdd, Nat.reduceSub]
 (repeat' (first | with_reducible (first | refine Xah ?_ | refine Xac ?_ | refine Xan ?_ | refine Xae ?_ | refine Xaa ?_) | ((apply Xad rfl); (case h => (((apply Xab 0 rfl; (exact Xao _ rfl))))); (case hT => ((try simp only [wtn]); rfl))) | (refine Xaj rfl ?_; (((refine Xaq 17 rfl ?_; ((refine XaB _ _ _ _ _ _ _ _ rfl XaQ.out (by first | rfl | fail) rfl (by decide) rfl (fun b => ?_))))); apply Xak; (case hT => ((try simp only [wtn]); rfl)); (case hH => ((try simp only [wtn]); rfl)))) | fail))
 refine XaT (S := Nat × Option Addr × Nat) (fun q => frm 66 [(0, .x (.string (bs s))), (3, .x (.string (bs Xom))), (4, .x (.slice q.2.1 (Xg5 (s.take q.1)).length q.2.2)), (5, .x (.int .i64 q.1))]) (fun q => [.row q.2.1 (Xg5 (s.take q.1)).length q.2.2 5 1 (u8a (Xg5 (s.take q.1)))]) (fun q => q.1 ≤ s.length) (fun q => s.length - q.1) (0, some ⟨b, 0, none⟩, 1) ?a (Nat.zero_le _) fun q hq => ?_
 case a => exact (XaK.mk' [] _ (XuZ _) (XaE.refl _ _) (by (repeat' (first | exact VwL.nil | (refine VwL.cons ?_ ?_) | exact Vw.refl _ | exact Vw.top _ | fail))))
 obtain ⟨k, ad, cap⟩ := q
 simp only at hq
 have hsl := Xlv (s.take k)
 rw [List.length_take] at hsl
 have hdl := Xp0
 simp only [frm, Xu6, Xu7, Xu0, Xu1, Xvd, Xve]
 by_cases hk : k < s.length
 ·have hsu := Lib.hid (XoK s k hk)
  have hbk := UInt8.toNat_lt s[k]
  have hb16 : s[k].toNat / 16 < 16 := by omega
  have hb16m : s[k].toNat % 16 < 16 := by omega
  (repeat' (first | with_reducible (first | refine Xah ?_ | refine Xac ?_ | refine Xan ?_ | refine Xax ?_ | refine Xae ?_ | refine Xaa ?_ | refine Xag ?_) | (refine Xai _ rfl (fun h => ?_) (fun h => ?_) <;> ((try (simp only [whn] at h)); first | (exfalso; omega; done) | skip)) | ((first | apply Xad rfl | apply Xa7 _ _ rfl rfl rfl); (case h => ((try (intro (hp : (_ : Bool) = true); ((try simp only [Bool.not_eq_true'] at hp); (try simp only [hp, wte]); (try simp only [whn] at hp)))); (first | (apply Xab 0 rfl; (first | exact Xar _ rfl | exact Xao _ rfl)) | (apply Xab 1 rfl; (exact Xcz _ _ _ _ _ rfl rfl rfl rfl)) | (apply Xab 8 rfl; (exact XaS _ _ _ _ _ _ _ rfl rfl rfl (by kernel_rfl) rfl (by omega))) | (apply XaF; (case hs => (intro _ _ h; cases h)); (case hx => rfl); (case hrun => (intro w; simp [wtb, AV.val, go_sem]; (try go_bits); rfl)))))); (case hT => ((try simp (disch := assumption) only [wtn, Xez, Xfm, Xu3, Xu0, Xu1, Xu4, Xu8, Nat.reduceAdd, Nat.reduceMul, Nat.reduceSub, ↓reduceIte, Nat.reduceEqDiff]); rfl))) | (refine Xaj rfl ?_; ((first | (refine Xaq 13 rfl ?_; ((refine XaH _ _ _ _ _ _ _ _ _ _ _ _ _ _ rfl rfl XbD.out (Src.row _ rfl XbD.out) XaQ.out (by first | rfl | fail) (XcD _ _ (by omega) (by decide)) (fun ad cap => ?_)))) | (refine Xaq 17 rfl ?_; ((refine XaB _ _ _ _ _ _ _ _ rfl XaQ.out (by first | rfl | fail) rfl (by decide) rfl (fun b => ?_))))); apply Xak; (case hT => ((try simp (disch := omega) only [wtn, Xez, Xfm, Xu3, Xu0, Xu1, Xu4, Xu8, Nat.reduceAdd, Nat.reduceMul, Nat.reduceSub, ↓reduceIte, Nat.reduceEqDiff]); rfl)); (case hH => ((try simp (disch := omega) only [wtn, Xez, Xfm, Xu3, Xu0, Xu1, Xu4, Xu8, Nat.reduceAdd, Nat.reduceMul, Nat.reduceSub, ↓reduceIte, Nat.reduceEqDiff]); rfl)))) | fail))
  ·have e : Xg5 (s.take (k + 1)) = Xg5 (s.take k) ++ [92, s[k]] := by
    rw [hsu.out]; congr 1; unfold XiE; rw [if_pos (by omega)]
   refine ⟨(k + 1, ad, cap), by simp only; omega, by simp only; omega, ?_⟩
   simp only [e, XcV, Xcl, Xdl, Xvb, Xu2, Xu5]
   exact (XaK.mk' [_] [_] (XuZ _) (XaE.refl _ _) (by (repeat' (first | exact VwL.nil | (refine VwL.cons ?_ ?_) | exact Vw.refl _ | exact Vw.top _ | fail))))
  ·have e : Xg5 (s.take (k + 1)) = Xg5 (s.take k) ++ [92, 110] := by
    rw [hsu.out]; congr 1; unfold XiE; rw [if_neg (by omega), if_pos (by omega)]
   refine ⟨(k + 1, ad, cap), by simp only; omega, by simp only; omega, ?_⟩
   simp only [e, XcV, Xcl, Xdl, Xvb, Xu2, Xu5]
   exact (XaK.mk' [_] [_] (XuZ _) (XaE.refl _ _) (by (repeat' (first | exact VwL.nil | (refine VwL.cons ?_ ?_) | exact Vw.refl _ | exact Vw.top _ | fail))))
  ·have e : Xg5 (s.take (k + 1)) = Xg5 (s.take k) ++ [92, 116] := by
    rw [hsu.out]; congr 1; unfold XiE; rw [if_neg (by omega), if_neg (by omega), if_pos (by omega)]
   refine ⟨(k + 1, ad, cap), by simp only; omega, by simp only; omega, ?_⟩
   simp only [e, XcV, Xcl, Xdl, Xvb, Xu2, Xu5]
   exact (XaK.mk' [_] [_] (XuZ _) (XaE.refl _ _) (by (repeat' (first | exact VwL.nil | (refine VwL.cons ?_ ?_) | exact Vw.refl _ | exact Vw.top _ | fail))))
  ·refine XcF Xbd ?_
   (apply Xbm 0 rfl rfl (by kernel_rfl) (by intro c T H hp; simp [XaP, Xas, XaV, Xbx] at hp); (case h => (first | exact Xbh _ rfl | fail)); (apply Xay; (case hT => ((try simp (disch := first | omega | fail) only [wtn, Xe7, Xfa, Xu3, Xu0, Xu1, Xu4, Xu8, Nat.reduceAdd, Nat.reduceMul, Nat.reduceSub, ↓reduceIte, Nat.reduceEqDiff]); rfl)); (case hH => rfl))); (apply Xbm 1 rfl rfl (by kernel_rfl) (by intro c T H hp; simp [XaP, Xas, XaV, Xbx] at hp); (case h => (first | exact Xbh _ rfl | fail)); (apply Xay; (case hT => ((try simp (disch := first | omega | fail) only [wtn, Xe7, Xfa, Xu3, Xu0, Xu1, Xu4, Xu8, Nat.reduceAdd, Nat.reduceMul, Nat.reduceSub, ↓reduceIte, Nat.reduceEqDiff]); rfl)); (case hH => rfl))); (apply Xbm 2 rfl rfl (by kernel_rfl) (by intro c T H hp; simp [XaP, Xas, XaV, Xbx] at hp); (case h => (first | exact Xbh _ rfl | fail)); (apply Xay; (case hT => ((try simp (disch := first | omega | fail) only [wtn, Xe7, Xfa, Xu3, Xu0, Xu1, Xu4, Xu8, Nat.reduceAdd, Nat.reduceMul, Nat.reduceSub, ↓reduceIte, Nat.reduceEqDiff]); rfl)); (case hH => rfl))); (apply Xbm 3 rfl rfl (by kernel_rfl) (by intro c T H hp; simp [XaP, Xas, XaV, Xbx] at hp); (case h => (first | (apply XnP; (case hs => (intro _ _ h; cases h)); (case hx => rfl); (case hrun => (intro w; simp [wtb, AV.val, go_sem]; (try go_bits); rfl))) | fail)); (apply Xay; (case hT => ((try simp (disch := first | omega | fail) only [wtn, Xe7, Xfa, Xu3, Xu0, Xu1, Xu4, Xu8, Nat.reduceAdd, Nat.reduceMul, Nat.reduceSub, ↓reduceIte, Nat.reduceEqDiff]); rfl)); (case hH => rfl))); (apply Xbm 4 rfl rfl (by kernel_rfl) (by intro c T H hp; simp [XaP, Xas, XaV, Xbx] at hp); (case h => (first | exact XcL _ _ _ _ _ _ _ rfl rfl rfl (by kernel_rfl) rfl (by omega) | fail)); (apply Xay; (case hT => ((try simp (disch := first | omega | fail) only [wtn, Xe7, Xfa, Xu3, Xu0, Xu1, Xu4, Xu8, Nat.reduceAdd, Nat.reduceMul, Nat.reduceSub, ↓reduceIte, Nat.reduceEqDiff]); rfl)); (case hH => rfl))); (apply Xbm 5 rfl rfl (by kernel_rfl) (by intro c T H hp; simp [XaP, Xas, XaV, Xbx] at hp); (case h => (first | exact Xbh _ rfl | fail)); (apply Xay; (case hT => ((try simp (disch := first | omega | fail) only [wtn, Xe7, Xfa, Xu3, Xu0, Xu1, Xu4, Xu8, Nat.reduceAdd, Nat.reduceMul, Nat.reduceSub, ↓reduceIte, Nat.reduceEqDiff]); rfl)); (case hH => rfl))); (apply Xbm 6 rfl rfl (by kernel_rfl) (by intro c T H hp; simp [XaP, Xas, XaV, Xbx] at hp); (case h => (first | exact Xbh _ rfl | fail)); (apply Xay; (case hT => ((try simp (disch := first | omega | fail) only [wtn, Xe7, Xfa, Xu3, Xu0, Xu1, Xu4, Xu8, Nat.reduceAdd, Nat.reduceMul, Nat.reduceSub, ↓reduceIte, Nat.reduceEqDiff]); rfl)); (case hH => rfl))); (apply Xbm 7 rfl rfl (by kernel_rfl) (by intro c T H hp; simp [XaP, Xas, XaV, Xbx] at hp); (case h => (first | (apply XnP; (case hs => (intro _ _ h; cases h)); (case hx => rfl); (case hrun => (intro w; simp [wtb, AV.val, go_sem]; (try go_bits); rfl))) | fail)); (apply Xay; (case hT => ((try simp (disch := first | omega | fail) only [wtn, Xe7, Xfa, Xu3, Xu0, Xu1, Xu4, Xu8, Nat.reduceAdd, Nat.reduceMul, Nat.reduceSub, ↓reduceIte, Nat.reduceEqDiff]); rfl)); (case hH => rfl))); (apply Xbm 8 rfl rfl (by kernel_rfl) (by intro c T H hp; simp [XaP, Xas, XaV, Xbx] at hp); (case h => (first | exact XcL _ _ _ _ _ _ _ rfl rfl rfl (by kernel_rfl) rfl (by omega) | fail)); (apply Xay; (case hT => ((try simp (disch := first | omega | fail) only [wtn, Xe7, Xfa, Xu3, Xu0, Xu1, Xu4, Xu8, Nat.reduceAdd, Nat.reduceMul, Nat.reduceSub, ↓reduceIte, Nat.reduceEqDiff]); rfl)); (case hH => rfl)))
   (repeat ((first | refine Xbr 9 (by decide +kernel) rfl rfl ?_ | refine Xbr 10 (by decide +kernel) rfl rfl ?_ | refine Xbr 11 (by decide +kernel) rfl rfl ?_ | fail); (first | (apply Xa9; (case h => ((apply Xab 0 rfl; (exact Xao _ rfl)))); (apply Xay; (case hT => ((try simp only [wtn]); rfl)); (case hH => rfl))) | ((first | (refine Xaq 13 rfl ?_; ((refine XaH _ _ _ _ _ _ _ _ _ _ _ _ _ _ rfl rfl XbD.out (Src.row _ rfl XbD.out) XaQ.out (by first | rfl | fail) (XcD _ _ (by omega) (by decide)) (fun ad cap => ?_)))) | (refine Xaq 17 rfl ?_; ((refine XaB _ _ _ _ _ _ _ _ rfl XaQ.out (by first | rfl | fail) rfl (by decide) rfl (fun b => ?_))))); apply Xay; (case hT => ((try simp only [wtn]); rfl)); (case hH => ((try simp only [wtn]); rfl))) | fail)))
   refine Xa3 (by decide +kernel) ?_
   (repeat' (first | with_reducible (first | refine Xac ?_ | refine Xae ?_ | refine Xaa ?_ | refine Xag ?_) | ((apply Xad rfl); (case h => ((first | (apply Xab 0 rfl; (first | exact Xar _ rfl | exact Xao _ rfl)) | (apply XaF; (case hs => (intro _ _ h; cases h)); (case hx => rfl); (case hrun => (intro w; simp [wtb, AV.val, go_sem]; (try go_bits); rfl)))))); (case hT => ((try simp only [wtn]); rfl))) | fail))
   have e : Xg5 (s.take (k + 1)) = Xg5 (s.take k) ++ [92, 120, Xom.getD (s[k].toNat / 16) 0, Xom.getD (s[k].toNat % 16) 0] := by
    rw [hsu.out]; congr 1; unfold XiE; rw [if_neg (by omega), if_neg (by omega), if_neg (by omega), if_pos (by omega)]
   refine ⟨(k + 1, ad, cap), by simp only; omega, by simp only; omega, ?_⟩
   simp only [e, XcV, Xcl, Xdl, Xvb, Xu2, Xu5]
   exact (XaK.mk' [_] [_] (XuZ _) (XaE.refl _ _) (by (repeat' (first | exact VwL.nil | (refine VwL.cons ?_ ?_) | exact Vw.refl _ | exact Vw.top _ | fail))))
  ·have e : Xg5 (s.take (k + 1)) = Xg5 (s.take k) ++ [s[k]] := by
    rw [hsu.out]; congr 1; unfold XiE; rw [if_neg (by omega), if_neg (by omega), if_neg (by omega), if_neg (by omega)]
   refine ⟨(k + 1, ad, cap), by simp only; omega, by simp only; omega, ?_⟩
   simp only [e, XcV, Xcl, Xdl, Xvb, Xu2, Xu5]
   exact (XaK.mk' [_] [_] (XuZ _) (XaE.refl _ _) (by (repeat' (first | exact VwL.nil | (refine VwL.cons ?_ ?_) | exact Vw.refl _ | exact Vw.top _ | fail))))
 ·obtain rfl : k = s.length := by omega
  (repeat' (first | with_reducible (first | refine Xah ?_ | refine Xac ?_ | refine Xat ?_ | refine XaW ?_ | refine Xae ?_ | refine Xaa ?_ | refine XaM ?_ | refine XaI ?_) | (refine Xai _ rfl (fun h => ?_) (fun h => ?_) <;> first | (exact absurd h (by decide)) | ((try (simp only [] at h)); skip)) | ((apply Xad rfl); (case h => ((first | (apply Xab 0 rfl; (first | exact Xar _ rfl | exact Xao _ rfl)) | (apply Xab 12 rfl; (exact XbM _ _ 5 _ (Xg5 (s.take s.length) ++ [34]) rfl (by kernel_rfl) (by kernel_rfl) (by kernel_rfl) (Src.bytes 1 _ rfl rfl (by simp; done) (by simp only [XcV, Xcl, Xdl]; rfl)))) | (apply XaF; (case hs => (intro _ _ h; cases h)); (case hx => rfl); (case hrun => (intro w; simp [wtb, AV.val, go_sem]; skip; rfl)))))); (case hT => ((try simp only [wtn]); rfl))) | (refine Xaj rfl ?_; ((first | (refine Xaq 13 rfl ?_; ((refine XaH _ _ _ _ _ _ _ _ _ _ _ _ _ _ rfl rfl XbD.out (Src.row _ rfl XbD.out) XaQ.out (by first | rfl | fail) (XcD _ _ (by omega) (by decide)) (fun ad cap => ?_)))) | (refine Xaq 17 rfl ?_; ((refine XaB _ _ _ _ _ _ _ _ rfl XaQ.out (by first | rfl | fail) rfl (by decide) rfl (fun b => ?_))))); apply Xak; (case hT => ((try simp only [wtn]); rfl)); (case hH => ((try simp only [wtn]); rfl)))) | fail))
  refine Xaf _ _ (Xbl rfl (RV.tmp _) (XaK.mk' [_, _] [] (XuZ _) (XaE.refl _ _) (by first | exact VwL.refl _ _ | fail))) ?_
  refine ⟨?_, rfl⟩
  simp only [ev, List.getD_cons_succ, List.getD_cons_zero, List.take_length, Xc8]
theorem Xlt : ∀ i : Nat, i < 16 → XgP (Xom.getD i 0) = some i := by decide
theorem XqH (b : UInt8) (r : List UInt8) : ∃ c t, XiE b = c :: t ∧ c.toNat ≠ 34 ∧ part (c :: (t ++ r)) = some (b, (XiE b).length) := by
 have hb := UInt8.toNat_lt b
 unfold XiE
 split
 ·rename_i h
  refine ⟨92, [b], rfl, by decide, ?_⟩
  rw [XbZ, if_neg (by decide), if_neg (by decide)]
  show Option.map _ (Xev (b :: r)) = _
  rw [Xf4 b r h]; rfl
 ·split
  ·rename_i h
   refine ⟨92, [110], rfl, by decide, ?_⟩
   rw [XbZ, if_neg (by decide), if_neg (by decide)]
   show Option.map _ (Xev (110 :: r)) = _
   rw [Xok 110 r (by decide), show b = 10 from UInt8.toNat_inj.1 (by rw [h]; rfl)]; rfl
  ·split
   ·rename_i h
    refine ⟨92, [116], rfl, by decide, ?_⟩
    rw [XbZ, if_neg (by decide), if_neg (by decide)]
    show Option.map _ (Xev (116 :: r)) = _
    rw [Xnl 116 r (by decide), show b = 9 from UInt8.toNat_inj.1 (by rw [h]; rfl)]; rfl
   ·split
    ·refine ⟨92, [120, Xom.getD (b.toNat / 16) 0, Xom.getD (b.toNat % 16) 0], rfl, by decide, ?_⟩
     rw [XbZ, if_neg (by decide), if_neg (by decide)]
     show Option.map _ (Xev (120 :: Xom.getD (b.toNat / 16) 0 :: Xom.getD (b.toNat % 16) 0 :: r)) = _
     rw [Xf6 120 _ _ r (by decide), Xlt _ (by omega), Xlt _ (by omega)]
     simp only [Option.bind_some, Option.map_some, Xu2, Xu5]
     rw [show 16 * (b.toNat / 16) + b.toNat % 16 = b.toNat from by omega, UInt8.ofNat_toNat]
    ·refine ⟨b, [], rfl, by omega, ?_⟩
     rw [XbZ, if_neg (by omega), if_pos (by omega)]; rfl
theorem Xlq (t : List UInt8) : ∀ s : List UInt8, quo (s.flatMap XiE ++ 34 :: t) = some (s, (s.flatMap XiE).length + 1)
 | [] => by rw [List.flatMap_nil, Xu9, XgN 34 t (by decide)]; rfl
 | b :: s => by
  obtain ⟨c, u, he, h34, hp⟩ := XqH b (s.flatMap XiE ++ 34 :: t)
  have hl : (XiE b).length = u.length + 1 := by rw [he]; rfl
  rw [List.flatMap_cons, List.append_assoc, he, Xva, Xej c _ b _ h34 hp, hl, List.drop_succ_cons, List.drop_left, Xlq t s]
  simp only [Option.map_some, Xvb, Xu2]
  congr 2 <;> omega
theorem elB : Xdk Tryz.prog 39 5 (.int .u8 0) 1 1 := ⟨Tryz.underlying39, by kernel_rfl, rfl, by decide⟩
theorem Xk0 {a b : Bool} (h : a = b) : Ending.returned (.bool a) = .returned (.bool b) := by rw [h]
theorem Xud {a b : Int} (h : a = b) (c : Bool) : Ending.returned (.tuple #[.int .u8 a, .bool c]) = .returned (.tuple #[.int .u8 b, .bool c]) := by rw [h]
set_option maxRecDepth 100000 in
set_option maxHeartbeats 800000 in
theorem Xbz (b : UInt8) (w : World) : Calls Tryz.prog 91 #[.int .u8 b.toNat] w fun e w' => e = .returned (.bool (Xb7 b)) ∧ w' = w := by
 go_enter Tryz.func91, Tryz.ntmps91
 go_wp2_with fail
 all_goals go_ret
 all_goals unfold Xb7
 all_goals exact ⟨Xk0 (by rw [Bool.eq_iff_iff]; simp only [Bool.or_eq_true, Bool.and_eq_true, decide_eq_true_eq, beq_iff_eq, bne_iff_ne, Bool.not_eq_true, Bool.not_eq_true', decide_eq_false_iff_not, reduceCtorEq, iff_true, true_iff, iff_false, false_iff, Bool.false_eq_true, ne_eq] <;> omega), rfl⟩
set_option maxRecDepth 100000 in
set_option maxHeartbeats 800000 in
theorem XbB (b : UInt8) (w : World) : Calls Tryz.prog 93 #[.int .u8 b.toNat] w fun e w' => e = .returned (.bool (Xbk b)) ∧ w' = w := by
 go_enter Tryz.func93, Tryz.ntmps93
 go_wp2_with fail
 all_goals go_ret
 all_goals unfold Xbk
 all_goals exact ⟨Xk0 (by rw [Bool.eq_iff_iff]; simp only [Bool.or_eq_true, Bool.and_eq_true, decide_eq_true_eq, beq_iff_eq, bne_iff_ne, Bool.not_eq_true, Bool.not_eq_true', decide_eq_false_iff_not, reduceCtorEq, iff_true, true_iff, iff_false, false_iff, Bool.false_eq_true, ne_eq] <;> omega), rfl⟩
def Xpb (b : UInt8) : Value := match XgP b with | none => .tuple #[.int .u8 0, .bool false] | some n => .tuple #[.int .u8 (n : Nat), .bool true]
set_option maxRecDepth 100000 in
set_option maxHeartbeats 800000 in
theorem XcQ (b : UInt8) (w : World) : Calls Tryz.prog 164 #[.int .u8 b.toNat] w fun e w' => e = .returned (Xpb b) ∧ w' = w := by
 have hb := b.toNat_lt
 go_enter Tryz.func164, Tryz.ntmps164
 go_wp2_with fail
 refine Calls.mono (XbB b _) ?_
 rintro e w1 ⟨rfl, rfl⟩
 cases hd : Xbk b
 all_goals
  go_wp2_with fail
  all_goals go_ret2
  all_goals
   simp only [Xbk, decide_eq_true_eq, decide_eq_false_iff_not] at hd
   refine ⟨?_, rfl⟩
   unfold Xpb XgP
   repeat rw [if_neg (by omega)]
   first | rfl | (rw [if_pos (by omega)]; exact Xud (by omega) _) | fail
def Xih (l : List UInt8) : Value := match part l with | none => .tuple #[.int .u8 0, .int .i64 0] | some x => .tuple #[.int .u8 x.1.toNat, .int .i64 (x.2 : Nat)]
def XgZ (l : List UInt8) : Value := match Xev l with | none => .tuple #[.int .u8 0, .int .i64 0] | some x => .tuple #[.int .u8 x.1.toNat, .int .i64 ((x.2 : Int) + 1)]
set_option maxRecDepth 100000 in
set_option maxHeartbeats 8000000 in
theorem Xjr (l : List UInt8) (w : World) (hl : l.length ≤ 1000000) : Calls Tryz.prog 132 #[.string (bs l)] w fun e w' => e = .returned (Xih l) ∧ w' = w := by
 cases l with
 | nil =>
  go_enter Tryz.func132, Tryz.ntmps132
  go_wp2_with fail
  all_goals go_ret2
  all_goals exact ⟨rfl, rfl⟩
 | cons c r =>
  have hb := c.toNat_lt
  simp only [Xu2] at hl
  by_cases h1 : c.toNat < 32 ∨ c.toNat = 34
  ·have hp : Xih (c :: r) = .tuple #[.int .u8 0, .int .i64 0] := by unfold Xih; rw [XbZ, if_pos h1]
   rw [hp]
   go_enter Tryz.func132, Tryz.ntmps132
   go_wp2_with fail
   all_goals go_ret2
   all_goals first | exact ⟨rfl, rfl⟩ | (exfalso; (try simp only [beq_iff_eq, bne_iff_ne, Xvg, ne_eq, Bool.not_eq_true, decide_eq_true_eq, decide_eq_false_iff_not, Bool.or_eq_true, Bool.or_eq_false_iff, Bool.and_eq_true, Bool.and_eq_false_iff, bne_eq_false_iff_eq, Bool.not_eq_true', Bool.not_eq_false'] at *); omega) | fail
  ·by_cases h2 : c.toNat = 92
   ·have he : Xih (c :: r) = XgZ r := by
     unfold Xih XgZ; rw [XbZ, if_neg h1, if_neg (by simpa using h2)]; cases Xev r <;> rfl
    rw [he]
    cases r with
    | nil =>
     have hv : XgZ [] = .tuple #[.int .u8 0, .int .i64 0] := rfl
     rw [hv]
     go_enter Tryz.func132, Tryz.ntmps132
     go_wp2_with fail
     all_goals go_ret2
     all_goals first | exact ⟨rfl, rfl⟩ | fail
    | cons d r =>
     simp only [Xu2] at hl
     have hd := d.toNat_lt
     by_cases d1 : d.toNat = 34 ∨ d.toNat = 92
     ·have hv : XgZ (d :: r) = .tuple #[.int .u8 d.toNat, .int .i64 2] := by unfold XgZ; rw [Xf4 d r d1]; rfl
      rw [hv]
      go_enter Tryz.func132, Tryz.ntmps132
      go_wp2_with fail
      all_goals go_ret2
      all_goals first | exact ⟨rfl, rfl⟩ | fail
     by_cases d2 : d.toNat = 110
     ·have hv : XgZ (d :: r) = .tuple #[.int .u8 10, .int .i64 2] := by unfold XgZ; rw [Xok d r d2]; rfl
      rw [hv]
      go_enter Tryz.func132, Tryz.ntmps132
      go_wp2_with fail
      all_goals go_ret2
      all_goals first | exact ⟨rfl, rfl⟩ | fail
     by_cases d3 : d.toNat = 116
     ·have hv : XgZ (d :: r) = .tuple #[.int .u8 9, .int .i64 2] := by unfold XgZ; rw [Xnl d r d3]; rfl
      rw [hv]
      go_enter Tryz.func132, Tryz.ntmps132
      go_wp2_with fail
      all_goals go_ret2
      all_goals first | exact ⟨rfl, rfl⟩ | fail
     by_cases d4 : d.toNat = 120
     ·rcases r with _ | ⟨x, _ | ⟨y, r⟩⟩
      ·have hv : XgZ [d] = .tuple #[.int .u8 0, .int .i64 0] := by unfold XgZ; rw [Xoo d d4]
       rw [hv]
       go_enter Tryz.func132, Tryz.ntmps132
       go_wp2_with fail
       all_goals go_ret2
       all_goals first | exact ⟨rfl, rfl⟩ | fail
      ·have hv : XgZ [d, x] = .tuple #[.int .u8 0, .int .i64 0] := by unfold XgZ; rw [Xnv d x d4]
       rw [hv]
       go_enter Tryz.func132, Tryz.ntmps132
       go_wp2_with fail
       all_goals go_ret2
       all_goals first | exact ⟨rfl, rfl⟩ | fail
      ·simp only [Xu2] at hl
       cases hx : XgP x with
       | none =>
        have hv : XgZ (d :: x :: y :: r) = .tuple #[.int .u8 0, .int .i64 0] := by unfold XgZ; rw [Xf6 d x y r d4, hx]; rfl
        rw [hv]
        cases hy : XgP y with
        | none =>
         go_enter Tryz.func132, Tryz.ntmps132
         go_wp2_with fail
         refine Calls.mono (XcQ x _) ?_
         rintro e w1 ⟨rfl, rfl⟩
         unfold Xpb
         rw [hx]
         go_wp2_with fail
         refine Calls.mono (XcQ y _) ?_
         rintro e w2 ⟨rfl, rfl⟩
         unfold Xpb
         rw [hy]
         go_wp2_with fail
         all_goals go_ret2
         all_goals first | exact ⟨rfl, rfl⟩ | fail
        | some n =>
         go_enter Tryz.func132, Tryz.ntmps132
         go_wp2_with fail
         refine Calls.mono (XcQ x _) ?_
         rintro e w1 ⟨rfl, rfl⟩
         unfold Xpb
         rw [hx]
         go_wp2_with fail
         refine Calls.mono (XcQ y _) ?_
         rintro e w2 ⟨rfl, rfl⟩
         unfold Xpb
         rw [hy]
         go_wp2_with fail
         all_goals go_ret2
         all_goals first | exact ⟨rfl, rfl⟩ | fail
       | some m =>
        cases hy : XgP y with
        | none =>
         have hv : XgZ (d :: x :: y :: r) = .tuple #[.int .u8 0, .int .i64 0] := by unfold XgZ; rw [Xf6 d x y r d4, hx, hy]; rfl
         rw [hv]
         go_enter Tryz.func132, Tryz.ntmps132
         go_wp2_with fail
         refine Calls.mono (XcQ x _) ?_
         rintro e w1 ⟨rfl, rfl⟩
         unfold Xpb
         rw [hx]
         go_wp2_with fail
         refine Calls.mono (XcQ y _) ?_
         rintro e w2 ⟨rfl, rfl⟩
         unfold Xpb
         rw [hy]
         go_wp2_with fail
         all_goals go_ret2
         all_goals first | exact ⟨rfl, rfl⟩ | fail
        | some n =>
         have hv : XgZ (d :: x :: y :: r) = .tuple #[.int .u8 ((16 * m + n : Nat) : Int), .int .i64 4] := by
          have hm := Xfg hx
          have hn := Xfg hy
          unfold XgZ; rw [Xf6 d x y r d4, hx, hy]; simp; omega
         rw [hv]
         have hm := Xfg hx
         have hn := Xfg hy
         have x1 : IntKind.u8.wrap (16 * (m : Int)) = 16 * m := IntWalk.u8_in _ (by omega)
         have x2 : IntKind.u8.wrap (16 * (m : Int) + n) = 16 * m + n := IntWalk.u8_in _ (by omega)
         go_enter Tryz.func132, Tryz.ntmps132
         go_wp2_with fail
         refine Calls.mono (XcQ x _) ?_
         rintro e w1 ⟨rfl, rfl⟩
         unfold Xpb
         rw [hx]
         go_wp2_with fail
         refine Calls.mono (XcQ y _) ?_
         rintro e w2 ⟨rfl, rfl⟩
         unfold Xpb
         rw [hy]
         go_wp2_with fail
         all_goals go_ret2
         all_goals first | exact ⟨rfl, rfl⟩ | fail
     ·have hv : XgZ (d :: r) = .tuple #[.int .u8 0, .int .i64 0] := by unfold XgZ; rw [Xoq d r (by omega)]
      rw [hv]
      go_enter Tryz.func132, Tryz.ntmps132
      go_wp2_with fail
      all_goals go_ret2
      all_goals first | exact ⟨rfl, rfl⟩ | fail
   ·have hp : Xih (c :: r) = .tuple #[.int .u8 c.toNat, .int .i64 1] := by unfold Xih; rw [XbZ, if_neg h1, if_pos h2]; rfl
    rw [hp]
    go_enter Tryz.func132, Tryz.ntmps132
    go_wp2_with fail
    all_goals go_ret2
    all_goals first | exact ⟨rfl, rfl⟩ | (exfalso; (try simp only [beq_iff_eq, bne_iff_ne, Xvg, ne_eq, Bool.not_eq_true, decide_eq_true_eq, decide_eq_false_iff_not, Bool.or_eq_true, Bool.or_eq_false_iff, Bool.and_eq_true, Bool.and_eq_false_iff, bne_eq_false_iff_eq, Bool.not_eq_true', Bool.not_eq_false'] at *); omega) | fail
end Go.Proofs.YtdpobjakdplljaaGreatDoor
