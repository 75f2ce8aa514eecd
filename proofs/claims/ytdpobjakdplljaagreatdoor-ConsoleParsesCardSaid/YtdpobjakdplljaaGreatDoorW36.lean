import Derived.Test.YtdpobjakdplljaaGreatDoorW35
import Derived.Test.YtdpobjakdplljaaGreatDoorW8
import Derived.RangeFuncIn
import Derived.RangeFuncRecord
import Derived.RangeFuncCalls
import Derived.TacticsIn
import Derived.CallsIn
import Derived.OrdersIn
import Derived.RangeFuncWrites
/- The program's scripts: the lines of a text. -/
set_option linter.unusedSimpArgs false
set_option linter.unusedVariables false
namespace Go.Proofs.YtdpobjakdplljaaGreatDoor
open Go.RowKit
theorem ixb (l : List UInt8) : (Lib.indexByte l 10 = -1 ∧ cmt l = l.length) ∨ (Lib.indexByte l 10 = cmt l ∧ cmt l < l.length) := by
 induction l with
 | nil => exact .inl ⟨rfl, rfl⟩
 | cons c r ih =>
  by_cases h : c.toNat = 10
  ·have e : c = 10 := UInt8.toNat_inj.1 h
   subst e
   right
   simp [cmt, Lib.indexByte]
  ·have e : (c == 10) = false := by
    rw [Xvg]
    intro e; subst e; exact h rfl
   have ec : cmt (c :: r) = cmt r + 1 := by simp [cmt, h]
   rw [ec]
   unfold Lib.indexByte
   rw [e]
   simp only [Bool.false_eq_true, if_false, Xu2]
   rcases ih with ⟨h1, h2⟩ | ⟨h1, h2⟩
   ·left; simp [h1, h2]
   ·right
    rw [h1]
    have : ((cmt r : Int) == -1) = false := by rw [Xvg]; omega
    rw [this]
    simp; omega
theorem Xg7 : ∀ (l cur : List UInt8), l ≠ [] ∨ cur ≠ [] → Xch cur l = (cur ++ l.take (cmt l)) :: Xch [] (l.drop (cmt l + 1))
 | [], cur, h => by
  have hc : cur ≠ [] := h.resolve_left (fun q => q rfl)
  simp [Xch, hc]
 | c :: r, cur, _ => by
  rw [Xch]
  by_cases h : c.toNat = 10
  ·rw [if_pos h]
   simp [cmt, h]
  ·rw [if_neg h, Xg7 r (cur ++ [c]) (.inr (by simp))]
   simp [cmt, h]
theorem Xmt {l : List UInt8} (h : l ≠ []) : Xb4 l = l.take (cmt l) :: Xb4 (l.drop (cmt l + 1)) := by
 have := Xg7 l [] (.inl h)
 simpa [Xb4] using this
theorem XkI (l : List UInt8) : Xa8 Tryz.prog 119 [] [.x (.string (bs l)), .x (.string (bs [10]))] (fun r H' => r = .x (.int .i64 (Lib.indexByte l 10)) ∧ H' = []) :=
 Xcn (args := [.string (bs l), .string (bs [10])]) (fun w => (stringslite_Index_one (bs l) 10 w).mono fun e w' ⟨h1, h2⟩ => ⟨by rw [h1]; simp [bs], h2 ▸ Below.refl _ _⟩) []
def Xq1 (l : List UInt8) : AV := .tup [.x (.string (bs (l.take (cmt l)))), .x (.string (bs (l.drop (cmt l + 1)))), .x (.bool (decide (cmt l < l.length)))]
set_option maxRecDepth 100000 in
set_option maxHeartbeats 8000000 in
theorem Xtc (l : List UInt8) (hl : l.length ≤ 1000000) (h1 : Lib.indexByte l 10 = -1) (h2 : cmt l = l.length) : Xa8 Tryz.prog 82 [] [.x (.string (bs l)), .x (.string (bs [10]))] (fun r H' => r = Xq1 l ∧ H' = []) := by
 have hi := XkI l
 rw [h1] at hi
 refine XaG Tryz.func82 rfl ?_
 simp only [Tryz.ntmps82, Xu2, Xu5, Xu6, Xu7, Xva, Xu9, Nat.reduceAdd, Nat.reduceSub]
 (repeat' (first | with_reducible (first | refine Xah ?_ | refine Xac ?_ | refine Xat ?_ | refine Xax ?_ | refine Xae ?_ | refine Xaa ?_) | (refine Xai _ rfl (fun h => ?_) (fun h => ?_) <;> first | (exact absurd h (by decide)) | ((try (simp only [] at h)); skip)) | ((apply Xad rfl); (case h => ((first | (apply Xab 0 rfl; (first | exact Xar _ rfl | exact Xao _ rfl)) | (apply Xab 11 rfl; (exact Xaz 119 Tryz.f119 _ _ rfl rfl Tryz.func119 (by decide) rfl (VwL.refl _ _) (hi))) | (apply XaF; (case hs => (intro _ _ h; cases h)); (case hx => rfl); (case hrun => (intro w; simp [wtb, AV.val, go_sem]; skip; rfl)))))); (case hT => ((try simp only [wtn]); rfl))) | fail))
 refine Xaf _ _ (Xm1 rfl (RV.tmp _) (RV.tmp _) (RV.tmp _) (XaK.mk' [] _ (XuZ _) (XaE.refl _ _) (VwL.refl _ _))) ?_
 refine ⟨?_, rfl⟩
 unfold Xq1
 rw [h2, List.take_length, List.drop_of_length_le (by omega), show decide (l.length < l.length) = false from decide_eq_false (by omega)]
 rfl
set_option maxRecDepth 100000 in
set_option maxHeartbeats 8000000 in
theorem Xt3 (l : List UInt8) (hl : l.length ≤ 1000000) (h1 : Lib.indexByte l 10 = cmt l) (h2 : cmt l < l.length) : Xa8 Tryz.prog 82 [] [.x (.string (bs l)), .x (.string (bs [10]))] (fun r H' => r = Xq1 l ∧ H' = []) := by
 have hi := XkI l
 rw [h1] at hi
 generalize hk : cmt l = k at *
 clear h1
 have hk' := Lib.hid hk
 clear hk
 refine XaG Tryz.func82 rfl ?_
 simp only [Tryz.ntmps82, Xu2, Xu5, Xu6, Xu7, Xva, Xu9, Nat.reduceAdd, Nat.reduceSub]
 (repeat' (first | with_reducible (first | refine Xah ?_ | refine Xac ?_ | refine Xae ?_ | refine Xaa ?_) | (refine Xai _ rfl (fun h => ?_) (fun h => ?_) <;> first | (exact absurd h (by decide)) | ((try (simp only [] at h)); skip)) | ((apply Xad rfl); (case h => ((first | (apply Xab 0 rfl; (first | exact Xar _ rfl | exact Xao _ rfl)) | (apply Xab 11 rfl; (exact Xaz 119 Tryz.f119 _ _ rfl rfl Tryz.func119 (by decide) rfl (VwL.refl _ _) (hi))) | (apply XaF; (case hs => (intro _ _ h; cases h)); (case hx => rfl); (case hrun => (intro w; simp [wtb, AV.val, go_sem]; skip; rfl)))))); (case hT => ((try simp only [wtn]); rfl))) | fail))
 refine XlD Xbd (by decide +kernel) ?_
 have hk1 : (k : Int) + 1 = ((k + 1 : Nat) : Int) := by omega
 (repeat' (first | with_reducible (first | refine Xat ?_ | refine Xb3 ?_ | refine Xaa ?_ | refine Xaw ?_) | ((apply XbH rfl); (case h => ((first | (apply Xab 0 rfl; (first | exact Xar _ rfl | exact Xao _ rfl)) | (apply Xab 9 rfl; (exact Xa0 _ _ _ _ _ _ _ rfl rfl (by kernel_rfl) (by first | exact .inl ⟨rfl, rfl⟩ | exact .inr ⟨_, _, rfl, rfl⟩ | fail) (by first | exact .inl ⟨rfl, rfl⟩ | exact .inr ⟨_, _, rfl, rfl⟩ | fail) (by omega) (by omega))) | (apply XaF; (case hs => (intro _ _ h; cases h)); (case hx => rfl); (case hrun => (intro w; simp [wtb, AV.val, go_sem]; (try go_bits); rfl)))))); (case hT => ((try simp (disch := omega) only [wtn, hk1, Xu3, Xu0, Xu1, Xu4, Xu8, Nat.reduceAdd, Nat.reduceMul, Nat.reduceSub, ↓reduceIte, Nat.reduceEqDiff]); rfl))) | fail))
 refine Xaf _ _ (Xm1 rfl (RV.tmp _) (RV.tmp _) (RV.tmp _) (XaK.mk' [] _ (XuZ _) (XaE.refl _ _) (VwL.refl _ _))) ?_
 refine ⟨?_, rfl⟩
 unfold Xq1
 rw [hk'.out, show decide (k < l.length) = true from decide_eq_true h2]
 simp only [List.take_length]
 rfl
theorem XtV (l : List UInt8) (hl : l.length ≤ 1000000) : Xa8 Tryz.prog 82 [] [.x (.string (bs l)), .x (.string (bs [10]))] (fun r H' => r = Xq1 l ∧ H' = []) := by
 rcases ixb l with ⟨h1, h2⟩ | ⟨h1, h2⟩
 ·exact Xtc l hl h1 h2
 ·exact Xt3 l hl h1 h2
set_option maxRecDepth 100000 in
set_option maxHeartbeats 8000000 in
theorem Xum (l : List UInt8) (hl : l.length ≤ 1000000) : Xa8 Tryz.prog 49 [] [.x (.string (bs l)), .x (.string (bs [10]))] (fun r H' => r = Xq1 l ∧ H' = []) := by
 have hi := XtV l hl
 unfold Xq1 at hi ⊢
 refine XaG Tryz.func49 rfl ?_
 simp only [Tryz.ntmps49, Xu2, Xu5, Xu6, Xu7, Xva, Xu9, Nat.reduceAdd, Nat.reduceSub]
 (repeat' (first | with_reducible (first | refine Xah ?_ | refine Xac ?_ | refine Xat ?_ | refine Xae ?_ | refine Xaa ?_) | ((apply Xad rfl); (case h => ((first | (apply Xab 0 rfl; (first | exact Xar _ rfl | exact Xao _ rfl)) | (apply Xab 2 rfl; (exact XaL _ _ _ _ rfl rfl rfl)) | (apply Xab 11 rfl; (exact Xaz 82 Tryz.f82 _ _ rfl rfl Tryz.func82 (by decide) rfl (VwL.refl _ _) (hi)))))); (case hT => ((try simp only [wtn]); rfl))) | fail))
 refine Xaf _ _ (Xm1 rfl (RV.tmp _) (RV.tmp _) (RV.tmp _) (XaK.mk' [] _ (XuZ _) (XaE.refl _ _) (VwL.refl _ _))) ?_
 exact ⟨rfl, rfl⟩
section
variable {P : Program} {Δ : List Deferred} {V O : Nat → Prop} {w0 w w' : World} {B H H' D : List Hp} {T T' : List AV} {a a' : Act} {o : Oper} {ops : Array Oper} {n : Nat}
def Xkx : Op → Bool
 | .defer .. => true
 | _ => false
theorem Xpf (l : Nat) {K : Act → World → Prop} {Q : Exit → Act → World → Prop} (hd : Xkx o.op = false) (h : o.wp P a w K Q) : o.wpIn (Fence.wide.inRound l) n P a w K Q := by
 refine ⟨fun _ _ => trivial, ?_⟩
 rw [show (Fence.wide.inRound l).round = some l from rfl, Oper.semAt_some l _ _ (by rintro c e; rw [e] at hd; cases hd)]
 unfold Oper.wp at h
 generalize (execOp a.eval o).run P w = r at h
 cases r with
 | halt k w' => cases k <;> first | exact h | exact h.elim
 | ok x w' =>
  cases x
  case value v => exact h
  case skip => exact h
  case defer d => exact h
  case enter f args => exact ⟨fun e => (by cases e), CallsIn.inRound l (callsIn_wide.2 h)⟩
  case row r args => exact ⟨fun e => (by cases e), fun c cs _ => by
   obtain ⟨v, w2, hR, hs⟩ := h c cs
   exact ⟨v, w2, hR, stepsIn_wide.2 hs⟩⟩
  all_goals exact h.elim
theorem Xd4 (l : Nat) {Q : Exit → Act → World → Prop} (hQ : ¬ LetsOut Q) : ∀ (L : List Oper) (a : Act) (w : World), (∀ o ∈ L, Xkx o.op = false) → wpList P ops Q L a w → wpListIn (Fence.wide.inRound l) n P ops Q L a w
 | [], a, w, _, h => h
 | o :: L, a, w, hd, h => by
  unfold wpList at h
  unfold wpListIn
  split
  ·rename_i hw
   rw [if_pos hw] at h
   rcases h with h | h
   ·exact Oper.wpIn_mono (fun a w h => Xd4 l hQ L a w (fun o ho => hd o (List.mem_cons_of_mem _ ho)) h) (Xpf l (hd o (List.mem_cons_self ..)) h)
   ·exact absurd h.2 hQ
  ·rename_i hw
   rw [if_neg hw] at h
   exact ⟨fun _ _ => trivial, Xd4 l hQ L _ w (fun o ho => hd o (List.mem_cons_of_mem _ ho)) h⟩
def Xin (P : Program) (c : Code) (Q : XcS) (T : List AV) (H : List Hp) : Prop :=
 ∀ l n Δ V O w0 a w, Rel Δ V O w0 H T a w → c.wpIn (Fence.wide.inRound l) n P (lift Δ V O w0 Q) a w
def Xro (Q : XcS) : Prop := ∀ T H, ¬ Q .outgrown T H
theorem Xro.lift {Q : XcS} (h : Xro Q) : ¬ LetsOut (lift Δ V O w0 Q) := fun ⟨a, w, T, H, _, q⟩ => h T H q
variable {Q : XcS} {x y : Code} {K : List AV → List Hp → Prop}
theorem XcG (hQ : Xro Q) {id : Nat} {L : List Oper} (hd : (L.all fun o => !Xkx o.op) = true) (h : XiU P L.toArray Q L T H) : Xin P (.region id L.toArray false) Q T H := fun l n Δ V O w0 a w r =>
 wpIn_region_lit (Xd4 l hQ.lift L a w (fun o ho => by have := List.all_eq_true.1 hd o ho; simpa using this) (h Δ V O w0 a w r))
theorem Xe1 (h : Xin P x (XaP (Xin P y Q) Q) T H) : Xin P (.seq x y) Q T H := fun l n Δ V O w0 a w r =>
 wpIn_seq (wpIn_mono (h l n Δ V O w0 a w r) fun e a w ⟨T, H, r, q⟩ => by
  cases e with
  | normal => exact q l n Δ V O w0 a w r
  | _ => exact ⟨T, H, r, q⟩)
theorem XeW {c : Operand} (b : Bool) (hc : ev T c = .x (.bool b)) (h1 : b = true → Xin P x Q T H) (h2 : b = false → Xin P y Q T H) : Xin P (.cond c x y) Q T H :=
 fun l n Δ V O w0 a w r => wpIn_cond_split (r.evx hc) (fun hb => h1 hb l n Δ V O w0 a w r) (fun hb => h2 hb l n Δ V O w0 a w r)
theorem Xeg {id : Nat} {c : Code} (h : Xin P c (Xas id Q) T H) : Xin P (.block id c) Q T H := fun l n Δ V O w0 a w r =>
 wpIn_block (wpIn_mono (h l n Δ V O w0 a w r) fun e a w ⟨T, H, r, q⟩ => by
  cases e with
  | exit id' =>
   simp only [Xas] at q
   simp only [Exit.inBlock]
   split
   ·rename_i he; rw [if_pos he] at q; exact ⟨T, H, r, q⟩
   ·rename_i he; rw [if_neg he] at q; exact ⟨T, H, r, q⟩
  | _ => exact ⟨T, H, r, q⟩)
theorem Xf8 (h : Q .normal T H) : Xin P .skip Q T H := fun l n Δ V O w0 a w r => wpIn_skip ⟨T, H, r, h⟩
theorem XhT (h : Q .ret T H) : Xin P .ret Q T H := fun l n Δ V O w0 a w r => wpIn_ret ⟨T, H, r, h⟩
theorem XoL {id : Nat} (h : Q (.exit id) T H) : Xin P (.exit id) Q T H := fun l n Δ V O w0 a w r => wpIn_exit ⟨T, H, r, h⟩
end
open Go.RowKit
section
variable {F F' : Nat → Prop} {w w' : World}
theorem Mem.cw {ad : Option Addr} {vals : List Value} (hc : ∀ b o v, ¬ F b → w.cell? ⟨b, o, none⟩ = some v → ¬ F' b ∧ w'.cell? ⟨b, o, none⟩ = some v) (h : Mem F w ad vals) : Mem F' w' ad vals := by
 rcases h with h | ⟨b, o, rfl, hb, h⟩
 ·exact .inl h
 ·cases vals with
  | nil => exact .inl rfl
  | cons v vs => exact .inr ⟨b, o, rfl, (hc b _ v hb (h 0 v rfl).1).1, fun j u hj => ⟨(hc b _ u hb (h j u hj).1).2, (h j u hj).2⟩⟩
mutual
theorem Den.cw (hc : ∀ b o v, ¬ F b → w.cell? ⟨b, o, none⟩ = some v → ¬ F' b ∧ w'.cell? ⟨b, o, none⟩ = some v) : (av : AV) → ∀ v, Den F w av v → Den F' w' av v
 | .x u, v, h => by rw [Den] at h ⊢; exact h
 | .top, v, h => by rw [Den]; trivial
 | .sq n cells, v, h => by
  rw [Den] at h ⊢
  obtain ⟨ad, cap, vals, h1, h2, h3, h4, h5, h6⟩ := h
  exact ⟨ad, cap, vals, h1, h2, h3, h4, h5.cw hc, Xa2.cw hc cells vals h6⟩
 | .at_ cells, v, h => by
  rw [Den] at h ⊢
  obtain ⟨b, o, vals, h1, h5, h6⟩ := h
  exact ⟨b, o, vals, h1, h5.cw hc, Xa2.cw hc cells vals h6⟩
 | .agg cells, v, h => by
  rw [Den] at h ⊢
  obtain ⟨vals, h1, h6⟩ := h
  exact ⟨vals, h1, Xa2.cw hc cells vals h6⟩
 | .tup cells, v, h => by
  rw [Den] at h ⊢
  obtain ⟨vals, h1, h6⟩ := h
  exact ⟨vals, h1, Xa2.cw hc cells vals h6⟩
 | .ifc t av, v, h => by
  rw [Den] at h ⊢
  obtain ⟨u, h1, h6⟩ := h
  exact ⟨u, h1, Den.cw hc av u h6⟩
 | .g p av, v, h => by
  rw [Den] at h ⊢
  exact ⟨fun hp => Den.cw hc av v (h.1 hp), h.2⟩
theorem Xa2.cw (hc : ∀ b o v, ¬ F b → w.cell? ⟨b, o, none⟩ = some v → ¬ F' b ∧ w'.cell? ⟨b, o, none⟩ = some v) : (l : List AV) → ∀ vs, Xa2 F w l vs → Xa2 F' w' l vs
 | [], vs, h => by rw [Xa2] at h ⊢; exact h
 | c :: cs, vs, h => by
  rw [Xa2] at h ⊢
  obtain ⟨u, us, e, h1, h2⟩ := h
  exact ⟨u, us, e, Den.cw hc c u h1, Xa2.cw hc cs us h2⟩
end
theorem XgQ.cw (hc : ∀ b o v, ¬ F b → w.cell? ⟨b, o, none⟩ = some v → ¬ F' b ∧ w'.cell? ⟨b, o, none⟩ = some v) (hs : w.heap.size ≤ w'.heap.size) :
  ∀ {h : Hp}, XgQ F w h → (∀ k, h.blk = some k → w'.heap[k]? = w.heap[k]?) → XgQ F' w' h
 | .box b cells, ⟨vals, h1, hl, h2⟩, hb => ⟨vals, Xa2.cw hc _ _ h1, by omega, fun j u hj => by
   have := hb b rfl
   rw [World.cell?_of_block (a := ⟨b, j, none⟩) this, World.frozen?_of_block (a := ⟨b, j, none⟩) this]; exact h2 j u hj⟩
 | .row ad n cap e size cells, ⟨vals, h1, h2, h3⟩, hb => by
   refine ⟨vals, Xa2.cw hc _ _ h1, ?_, h3⟩
   obtain ⟨hl, hn | ⟨g, cap', cur, e', hbg, hg, r⟩⟩ := h2
   ·exact ⟨hl, .inl hn⟩
   ·refine ⟨hl, .inr ⟨g, cap', cur, e', hbg, ?_, r⟩⟩
    have : ad = some ⟨g, 0, none⟩ := by injection e'
    rw [hb g (by rw [this]; rfl)]; exact hg
end
section
variable {P : Program} {Δ Δ' : List Deferred} {V O : Nat → Prop} {w0 w w' : World} {B H H' H1 D : List Hp} {T T' T1 : List AV} {a a' a1 : Act} {o : Oper} {ops : Array Oper} {n : Nat}
theorem Rel.comp (r : Rel Δ V O w0 H T a w) (r' : Rel Δ' V (XcY H) w H1 T1 a1 w') : Rel Δ' V O w0 H1 T1 a1 w' where
 tmps := r'.tmps
 hok := r'.hok
 fr := r.fr.trans r'.fr fun i hi ⟨x, hx, e⟩ => (r.own x hx i e).resolve_right (by omega)
 own := fun y hy k hk => by
  rcases r'.own y hy k hk with ⟨x, hx, e⟩ | h
  ·exact r.own x hx k e
  ·exact .inr (Nat.le_trans r.fr.size h)
 defers := r'.defers
 vlt := r.vlt
 gl := r.gl
theorem Rel.anew (r : Rel Δ V O w0 H T a w) : Rel Δ V (XcY H) w H T a w where
 tmps := r.tmps
 hok := r.hok
 fr := Fr.refl _ _
 own := fun x hx k hk => .inl ⟨x, hx, hk⟩
 defers := r.defers
 vlt := fun k hk => Nat.lt_of_lt_of_le (r.vlt k hk) r.fr.size
 gl := r.gb
def dull : AV → Bool
 | .x _ => true
 | .top => true
 | _ => false
theorem Den.dull {F F' : Nat → Prop} {av : AV} {v : Value} (hd : dull av = true) (h : Den F w av v) : Den F' w' av v := by
 cases av <;> first | (cases hd; done) | (rw [Den] at h ⊢; exact h) | (rw [Den]; trivial)
theorem Xa2.dull {F F' : Nat → Prop} : ∀ {T : List AV} {vs : List Value}, (T.all Go.Proofs.YtdpobjakdplljaaGreatDoor.dull) = true → Xa2 F w T vs → Xa2 F' w' T vs
 | [], vs, _, h => by rw [Xa2] at h ⊢; exact h
 | c :: T, vs, hd, h => by
  rw [Xa2] at h ⊢
  obtain ⟨u, us, rfl, h1, h2⟩ := h
  rw [List.all_cons, Bool.and_eq_true] at hd
  exact ⟨u, us, rfl, h1.dull hd.1, Xa2.dull hd.2 h2⟩
theorem Rel.redef (r : Rel Δ' V O w0 H T1 a1 w) (h : Xa2 (FB V H) w T a.tmps.toList) (hd : a.defers = Δ) : Rel Δ V O w0 H T a w where
 tmps := h
 hok := r.hok
 fr := r.fr
 own := r.own
 defers := hd
 vlt := r.vlt
 gl := r.gl
theorem Xj7 {l : Nat} {ob : Obj} (ob' : Obj) (h : w.heap[l]? = some ob) (hc : ob.isCells = false) {x : Addr} {u : Value} (hx : w.cell? x = some u) : (w.putObj l ob').cell? x = some u := by
 have hne : x.block ≠ l := by
  intro e
  unfold World.cell? at hx
  rw [e, h] at hx
  cases ob <;> first | (cases hc; done) | (cases hx; done)
 rw [World.cell?_of_block (World.putObj_heap_other hne)]; exact hx
theorem Rel.putObj (r : Rel Δ V O w0 H T a w) {l : Nat} {ob : Obj} (ob' : Obj) (h : w.heap[l]? = some ob) (hc : ob.isCells = false) (hb : ¬ XcY H l) (ho : O l ∨ w0.heap.size ≤ l) : Rel Δ V O w0 H T a (w.putObj l ob') := by
 have hsz : (w.putObj l ob').heap.size = w.heap.size := by simp [World.putObj]
 have hk : ∀ b o v, ¬ FB V H b → w.cell? ⟨b, o, none⟩ = some v → ¬ FB V H b ∧ (w.putObj l ob').cell? ⟨b, o, none⟩ = some v := fun b o v hF hv => ⟨hF, Xj7 ob' h hc hv⟩
 refine ⟨Xa2.cw hk _ _ r.tmps, ⟨fun x hx => (r.hok.ok x hx).cw hk (by omega) fun k e => World.putObj_heap_other fun e' => hb ⟨x, hx, by rw [← e']; exact e⟩, r.hok.apart, fun x hx k e => by rw [hsz]; exact r.hok.lt x hx k e⟩, ?_, r.own, r.defers, r.vlt, r.gl⟩
 refine r.fr.trans (O' := fun k => k = l) ⟨rfl, rfl, rfl, by omega, fun k _ hn => World.putObj_heap_other hn⟩ fun i hi e => ?_
 subst e
 exact ho.resolve_right (by omega)
def Trk (O : Nat → Prop) (w0 : World) (H : List Hp) (w : World) (p : Nat × Obj) : Prop := w.heap[p.1]? = some p.2 ∧ p.2.isCells = false ∧ ¬ XcY H p.1 ∧ (O p.1 ∨ w0.heap.size ≤ p.1)
theorem Trk.on {p : Nat × Obj} (t : Trk O w0 H w p) (r : Rel Δ V (XcY H) w H1 T1 a1 w') : Trk O w0 H1 w' p := by
 obtain ⟨t1, t2, t3, t4⟩ := t
 have hlt := (Array.getElem?_eq_some_iff.1 t1).1
 refine ⟨(r.fr.block p.1 hlt t3).trans t1, t2, fun ⟨x, hx, e⟩ => ?_, t4⟩
 rcases r.own x hx p.1 e with h | h
 ·exact t3 h
 ·omega
theorem Trk.same {p : Nat × Obj} (t : Trk O w0 H w p) (h : ∀ k, XcY H1 k → XcY H k) : Trk O w0 H1 w p := ⟨t.1, t.2.1, fun e => t.2.2.1 (h _ e), t.2.2.2⟩
abbrev Xib := List Deferred → List (Nat × Obj) → XcS
def XpE (V O : Nat → Prop) (w0 : World) (Q : Xib) : Exit → Act → World → Prop := fun e a w => ∃ Δ Θ T H, Rel Δ V O w0 H T a w ∧ (∀ p ∈ Θ, Trk O w0 H w p) ∧ Q Δ Θ e T H
def XfO (P : Program) (Δ : List Deferred) (Θ : List (Nat × Obj)) (c : Code) (Q : Xib) (T : List AV) (H : List Hp) : Prop :=
 ∀ V O w0 a w, Rel Δ V O w0 H T a w → (∀ p ∈ Θ, Trk O w0 H w p) → c.wp P (XpE V O w0 Q) a w
variable {Θ : List (Nat × Obj)} {Q : Xib} {x y c : Code}
theorem XdJ (h : awp P c (Q Δ Θ) T H) : XfO P Δ Θ c Q T H := fun V O w0 a w r t =>
 wp_mono (h Δ V (XcY H) w a w r.anew) fun _ _ _ ⟨T', H', r', q⟩ => ⟨Δ, Θ, T', H', r.comp r', fun p hp => (t p hp).on r', q⟩
theorem XcX (h : XfO P Δ Θ x (fun Δ Θ => XaP (XfO P Δ Θ y Q) (Q Δ Θ)) T H) : XfO P Δ Θ (.seq x y) Q T H := fun V O w0 a w r t =>
 wp_seq (wp_mono (h V O w0 a w r t) fun e a w ⟨Δ, Θ, T, H, r, t, q⟩ => by
  cases e with
  | normal => exact q V O w0 a w r t
  | _ => exact ⟨Δ, Θ, T, H, r, t, q⟩)
theorem XbO (h : awp P x (XaP (XfO P Δ Θ y Q) (Q Δ Θ)) T H) : XfO P Δ Θ (.seq x y) Q T H := XcX (XdJ h)
theorem Xer {id : Nat} (h : XfO P Δ Θ c (fun Δ Θ => Xas id (Q Δ Θ)) T H) : XfO P Δ Θ (.block id c) Q T H := fun V O w0 a w r t =>
 wp_block (wp_mono (h V O w0 a w r t) fun e a w ⟨Δ, Θ, T, H, r, t, q⟩ => by
  cases e with
  | exit id' =>
   simp only [Xas] at q
   simp only [Exit.inBlock]
   split
   ·rename_i he; rw [if_pos he] at q; exact ⟨Δ, Θ, T, H, r, t, q⟩
   ·rename_i he; rw [if_neg he] at q; exact ⟨Δ, Θ, T, H, r, t, q⟩
  | _ => exact ⟨Δ, Θ, T, H, r, t, q⟩)
theorem Xd8 (h : XaK H T H' T') : ∀ k, XcY H' k → XcY H k := by
 intro k ⟨x, hx, e⟩
 obtain ⟨D, R, hp, hH, -⟩ := h.ex
 obtain ⟨y, hy, hxy⟩ := hH.mem x hx
 exact ⟨y, hp.mem_iff.2 (by simp [hy]), hxy.blk ▸ e⟩
theorem Xhn {S : Type} (Tf : S → List AV) (Hf : S → List Hp) (Θf : S → List (Nat × Obj)) (Inv : S → Prop) (m : S → Nat) (s0 : S) (h0 : XaK H T (Hf s0) (Tf s0)) (hΘ : Θf s0 = Θ) (hi : Inv s0)
  (round : ∀ s, Inv s → XfO P Δ (Θf s) c (fun Δ' Θ' => XaP (fun T' H' => Δ' = Δ ∧ ∃ s', m s' < m s ∧ Inv s' ∧ Θ' = Θf s' ∧ XaK H' T' (Hf s') (Tf s')) (Q Δ' Θ')) (Tf s) (Hf s)) : XfO P Δ Θ (.loop c) Q T H := by
 subst hΘ
 intro V O w0 a w r t
 have key : ∀ n s a w, m s = n → Inv s → Rel Δ V O w0 (Hf s) (Tf s) a w → (∀ p ∈ Θf s, Trk O w0 (Hf s) w p) → ∀ (b : Frame) (k : List Item) (cs : List Frame),
   ∃ e a' w', XpE V O w0 Q e a' w' ∧ Arrives P (lone (b.at a (.code c :: .inLoop c :: k)) cs w) b k cs e a' w' := by
  intro n
  induction n using Nat.strongRecOn with
  | _ n ih =>
   intro s a w hn hI hr ht b k cs
   obtain ⟨e, a₁, w₁, ⟨Δ1, Θ1, T1, H1, r1, t1, q1⟩, harr⟩ := round s hI V O w0 a w hr ht b (.inLoop c :: k) cs
   cases e with
   | normal =>
    obtain ⟨rfl, s', hlt, hI₁, rfl, hw⟩ := q1
    obtain ⟨e₂, a₂, w₂, hq₂, harr₂⟩ := ih (m s') (hn ▸ hlt) s' a₁ w₁ rfl hI₁ (r1.weaken hw) (fun p hp => (t1 p hp).same (Xd8 hw)) b k cs
    exact ⟨e₂, a₂, w₂, hq₂, .of_steps (Steps.trans harr (.one step_inLoop)) harr₂⟩
   | exit id => exact ⟨_, a₁, w₁, ⟨Δ1, Θ1, T1, H1, r1, t1, q1⟩, .pass (x := .inLoop c) rfl (fun _ _ => .inl (by simp)) harr⟩
   | goto l => exact ⟨_, a₁, w₁, ⟨Δ1, Θ1, T1, H1, r1, t1, q1⟩, .pass (x := .inLoop c) rfl (fun _ _ => .inl (by simp)) harr⟩
   | ret => exact ⟨_, a₁, w₁, ⟨Δ1, Θ1, T1, H1, r1, t1, q1⟩, .pass (x := .inLoop c) rfl (fun _ _ => .inl (by simp)) harr⟩
   | panic ch => exact ⟨_, a₁, w₁, ⟨Δ1, Θ1, T1, H1, r1, t1, q1⟩, .pass (x := .inLoop c) rfl (fun _ _ => .inl (by simp)) harr⟩
   | outgrown => exact ⟨_, a₁, w₁, ⟨Δ1, Θ1, T1, H1, r1, t1, q1⟩, .pass (x := .inLoop c) rfl (fun _ _ => .inl (by simp)) harr⟩
 intro b k cs
 obtain ⟨e, a', w', hq, harr⟩ := key _ s0 a w rfl hi (r.weaken h0) (fun p hp => (t p hp).same (Xd8 h0)) b k cs
 exact ⟨e, a', w', hq, .of_steps (.one step_loop) harr⟩
end
open Go.RowKit
section
variable {P : Program} {Δ Δ' : List Deferred} {V O : Nat → Prop} {w0 w w' : World} {B H H' H1 D : List Hp} {T T' T1 Tp : List AV} {a a' a1 : Act} {o : Oper} {ops : Array Oper} {n : Nat}
variable {Θ : List (Nat × Obj)} {Q : Xib} {x y c : Code}
def Xgy (ρ : Loop) : Loop := { ρ with state := .done, pending := some .ret }
theorem XpL {l : Nat} {ρ : Loop} {f : FuncId} {tm : Array Value} {assign body : Code} {QB : XcS} (r : Rel Δ V O w0 H T a w) (hl : w.heap[l]? = some (.loop ρ)) (hst : ρ.state = .ready) (hpe : ρ.pending = none) (hb : ¬ XcY H l) (ho : O l ∨ w0.heap.size ≤ l)
  (htm : Xa2 (FB V H) w Tp tm.toList) (h : Xin P assign (fun e T1 H1 => e = .normal ∧ Xin P body QB T1 H1) Tp H) (hQB : ∀ e T H, QB e T H → e = .normal ∨ e = .ret) (ht : ∀ p ∈ Θ, Trk O w0 H w p ∧ p.1 ≠ l) :
  RoundIn Fence.wide n P l f tm assign body w fun e w' => ∃ T' H' a', Rel [] V O w0 H' T' a' w' ∧ (∀ p ∈ Θ, Trk O w0 H' w' p) ∧
   ((e = .returned (.bool true) ∧ QB .normal T' H' ∧ Trk O w0 H' w' (l, .loop ρ)) ∨ (e = .returned (.bool false) ∧ QB .ret T' H' ∧ Trk O w0 H' w' (l, .loop (Xgy ρ)))) := by
 have r0 : Rel [] V O w0 H Tp { tmps := tm, defers := [] } w := r.redef htm rfl
 refine roundIn_of_wpIn trivial (wpIn_mono (h l n [] V (XcY H) w _ w r0.anew) ?_)
 rintro e a1 w1 ⟨T1, H1, r1, rfl, hbody⟩
 have hl1 : Trk O w0 H1 w1 (l, .loop ρ) := Trk.on (H := H) ⟨hl, rfl, hb, ho⟩ r1
 have r1' := r0.comp r1
 refine ⟨_, run_beginRound hl1.1 hst, ?_⟩
 have r2 := r1'.putObj (.loop { ρ with state := .busy }) hl1.1 rfl hl1.2.2.1 hl1.2.2.2
 have hlt := (Array.getElem?_eq_some_iff.1 hl1.1).1
 have hl2 : Trk O w0 H1 (w1.putObj l (.loop { ρ with state := .busy })) (l, .loop { ρ with state := .busy }) := ⟨World.putObj_heap_same hlt, rfl, hl1.2.2⟩
 have ht2 : ∀ p ∈ Θ, Trk O w0 H1 (w1.putObj l (.loop { ρ with state := .busy })) p := fun p hp => by
  have q := (ht p hp).1.on r1
  exact ⟨(World.putObj_heap_other (ht p hp).2).trans q.1, q.2⟩
 refine wpIn_mono (hbody l n [] V (XcY H1) _ _ _ r2.anew) ?_
 rintro e a3 w3 ⟨T3, H3, r3, q⟩
 have r3' := r2.comp r3
 have hl3 := hl2.on r3
 have ht3 : ∀ p ∈ Θ, Trk O w0 H3 w3 p := fun p hp => (ht2 p hp).on r3
 have hlt3 := (Array.getElem?_eq_some_iff.1 hl3.1).1
 have fin : ∀ ob : Obj, ob.isCells = false → Rel [] V O w0 H3 T3 a3 (w3.putObj l ob) ∧ (∀ p ∈ Θ, Trk O w0 H3 (w3.putObj l ob) p) ∧ Trk O w0 H3 (w3.putObj l ob) (l, ob) := fun ob hob =>
  ⟨r3'.putObj ob hl3.1 rfl hl3.2.2.1 hl3.2.2.2, fun p hp => ⟨(World.putObj_heap_other (ht p hp).2).trans (ht3 p hp).1, (ht3 p hp).2⟩, ⟨World.putObj_heap_same hlt3, hob, hl3.2.2⟩⟩
 rcases hQB _ _ _ q with rfl | rfl
 ·have hrun := run_endRound (P := P) none hl3.1
  refine ⟨_, _, hrun, T3, H3, a3, (fin _ rfl).1, (fin _ rfl).2.1, .inl ⟨rfl, q, ?_⟩⟩
  have e0 : ({ { ρ with state := LoopState.busy } with state := if (none : Option Code).isNone then LoopState.ready else LoopState.done, pending := none } : Loop) = ρ := by
   cases ρ; simp only at hst hpe; subst hst; subst hpe; rfl
  have := (fin (.loop ρ) rfl).2.2
  rw [← e0] at this ⊢
  exact this
 ·have hrun := run_endRound (P := P) (some .ret) hl3.1
  exact ⟨_, _, hrun, T3, H3, a3, (fin _ rfl).1, (fin _ rfl).2.1, .inr ⟨rfl, q, (fin _ rfl).2.2⟩⟩
def XdU (P : Program) (Δ : List Deferred) (Θ : List (Nat × Obj)) (ops : Array Oper) (Q : Xib) (rest : List Oper) (T : List AV) (H : List Hp) : Prop :=
 ∀ V O w0 a w, Rel Δ V O w0 H T a w → (∀ p ∈ Θ, Trk O w0 H w p) → wpListIn Fence.wide 0 P ops (XpE V O w0 Q) rest a w
theorem XdH {id : Nat} {L : List Oper} (h : XdU P Δ Θ L.toArray Q L T H) : XfO P Δ Θ (.region id L.toArray false) Q T H := fun V O w0 a w r t => wpIn_wide.1 (wpIn_region_lit (h V O w0 a w r t))
theorem XdY (h : Q Δ Θ .normal T H) : XdU P Δ Θ ops Q [] T H := fun V O w0 a w r t => wpListIn_nil ⟨Δ, Θ, T, H, r, t, h⟩
theorem XhQ {K : Act → World → Prop} {Qe : Exit → Act → World → Prop} (h : o.wp P a w K Qe) : o.wpIn Fence.wide n P a w K Qe := by
 refine ⟨fun _ _ => trivial, ?_⟩
 rw [show Fence.wide.round = none from rfl, Oper.semAt_none]
 unfold Oper.wp at h
 generalize (execOp a.eval o).run P w = r at h
 cases r with
 | halt k w' => cases k <;> first | exact h | exact h.elim
 | ok x w' =>
  cases x
  case value v => exact h
  case skip => exact h
  case defer d => exact h
  case enter f args => exact ⟨fun e => (by cases e), callsIn_wide.2 h⟩
  case row r args => exact ⟨fun e => (by cases e), fun c cs _ => by
   obtain ⟨v, w2, hR, hs⟩ := h c cs
   exact ⟨v, w2, hR, stepsIn_wide.2 hs⟩⟩
  all_goals exact h.elim
theorem Xdy {T' : List AV} {rest : List Oper} (hg : o.guard = none) (av : AV) (h : Evl P o (ev T) H av) (hT : Xb8 T o.dst av = T') (hK : XdU P Δ Θ ops Q rest T' H) : XdU P Δ Θ ops Q (o :: rest) T H := fun V O w0 a w r t =>
 wpListIn_plain hg fun K hKc => XhQ (h V a w K _ (r.oks o) fun v w' he hd => hKc _ _ (hK V O w0 _ _ (hT ▸ (r.quiet he).put _ hd) fun p hp => by
  obtain ⟨t1, t2, t3, t4⟩ := t p hp
  exact ⟨(he.block p.1 (Array.getElem?_eq_some_iff.1 t1).1).trans t1, t2, t3, t4⟩))
theorem XjN {rest : List Oper} {cal : Operand} {args : Array Operand} {tys : Array TypeId} {vals : Array Value} {l : Nat} {ρ : Loop} (hg : o.guard = none) (ho : o.op = .call { callee := .value cal, args := args, argTypes := tys }) (hc : ev T cal = .x (.func (.yield l) #[] #[]))
  (ha : args.toList.map (ev T) = vals.toList.map .x) (hps : vals.size = ρ.params.size) (hst : ρ.state = .ready) (hpe : ρ.pending = none) (hT : T.all dull = true) {QB : XcS}
  (htm : ∀ F w, Xa2 F w Tp ((ρ.params.zip vals).foldl (fun tmps (t, a) => tmps.setIfInBounds t a) ρ.tmps).toList)
  (hne : ∀ p ∈ Θ, p.1 ≠ l)
  (h : Xin P ρ.assign (fun e T1 H1 => e = .normal ∧ Xin P ρ.body QB T1 H1) Tp H) (hQB : ∀ e T H, QB e T H → e = .normal ∨ e = .ret)
  (hn : ∀ T1 H1, QB .normal T1 H1 → XdU P Δ ((l, .loop ρ) :: Θ) ops Q rest (Xb8 T o.dst (.x (.bool true))) H1)
  (hr : ∀ T1 H1, QB .ret T1 H1 → XdU P Δ ((l, .loop (Xgy ρ)) :: Θ) ops Q rest (Xb8 T o.dst (.x (.bool false))) H1) :
  XdU P Δ ((l, .loop ρ) :: Θ) ops Q (o :: rest) T H := fun V O w0 a w r t => wpListIn_plain hg fun K hK => by
 obtain ⟨tl, tls⟩ := List.forall_mem_cons.1 t
 have hargs : args.map a.eval = vals := by
  apply Array.toList_inj.1
  rw [Array.toList_map]
  apply List.ext_getElem?
  intro i
  have := congrArg (fun l => l[i]?) ha
  simp only [List.getElem?_map] at this ⊢
  cases h1 : args.toList[i]? with
  | none => rw [h1] at this; cases h2 : vals.toList[i]? with
   | none => rfl
   | some v => rw [h2] at this; cases this
  | some x => rw [h1] at this; cases h2 : vals.toList[i]? with
   | none => rw [h2] at this; cases this
   | some v =>
    rw [h2] at this
    simp only [Option.map_some, Option.some.injEq] at this ⊢
    exact r.evx this
 have hrun : (execOp a.eval o).run P w = .ok (.round l ρ.fn ((ρ.params.zip vals).foldl (fun tmps (t, a) => tmps.setIfInBounds t a) ρ.tmps) ρ.assign ρ.body) w := by
  have hy := run_yield (P := P) (args := vals) tl.1 hps
  have hcv : a.eval cal = .func (.yield l) #[] #[] := r.evx hc
  simp [execOp, ho, hcv, hargs, resolve, Deferred.ofValue, invoke, hy]
 refine ⟨fun _ _ => trivial, ?_⟩
 rw [show Fence.wide.round = none from rfl, Oper.semAt_none, hrun, Oper.uponIn_round]
 refine ⟨fun e => (by cases e), (XpL r tl.1 hst hpe tl.2.2.1 tl.2.2.2 (htm _ _) h hQB (Θ := Θ) fun p hp => ⟨tls p hp, hne p hp⟩).mono ?_⟩
 rintro e w' ⟨T1, H1, a1, r1, t1, h1⟩
 have hd : a.defers = Δ := r.defers
 rcases h1 with ⟨rfl, q, tk⟩ | ⟨rfl, q, tk⟩
 ·have r2 : Rel Δ V O w0 H1 T a w' := r1.redef (r.tmps.dull hT) hd
  exact hK _ _ (hn T1 H1 q V O w0 _ _ (r2.put o.dst (v := .bool true) (by rw [Den])) fun p hp => by
   rcases List.mem_cons.1 hp with rfl | hp
   ·exact tk
   ·exact t1 p hp)
 ·have r2 : Rel Δ V O w0 H1 T a w' := r1.redef (r.tmps.dull hT) hd
  exact hK _ _ (hr T1 H1 q V O w0 _ _ (r2.put o.dst (v := .bool false) (by rw [Den])) fun p hp => by
   rcases List.mem_cons.1 hp with rfl | hp
   ·exact tk
   ·exact t1 p hp)
theorem Xml (w : World) (x y : Obj) : Ext w ((w.alloc x).alloc y) := (Ext.al w x).tr (Ext.al _ y)
def itT (l : Nat) (lb : Array Value) (fn : Func) : List AV := (.x (.func (.yield l) #[] #[]) :: lb.toList.map .x) ++ List.replicate (fn.ntmps - (1 + lb.size)) .top
def XiM (D : Nat) : Deferred := { target := .collected D, args := #[] }
def itQ (l D : Nat) (ρ : Loop) (KN KR : List Hp → Prop) : Xib := fun Δ Θ e _ H => (e = .ret ∨ e = .normal) ∧ Δ = [] ∧ ((Θ = [(l, .loop ρ), (D, .deferred (some []))] ∧ KN H) ∨ (Θ = [(l, .loop (Xgy ρ)), (D, .deferred (some []))] ∧ KR H))
theorem XgV {g : Operand} {ps : Array Tmp} {assign body cb : Code} {gf : FuncId} {lb : Array Value} {fn : Func} (KN KR : List Hp → Prop) (hT : T.all dull = true) (hg : ev T g = .x (.func (.func gf) #[] lb)) (hf : P.funcs[gf]? = some fn) (hnm : fn.name ≠ "runtime.NumGoroutine") (hb : fn.body = some cb) (hres : fn.results = #[])
  (hit : ∀ l D ρ, l ≠ D → ρ.state = .ready → ρ.pending = none → ρ.params = ps → ρ.assign = assign → ρ.body = body → (∀ F w, Xa2 F w T ρ.tmps.toList) →
   XfO P [] [(l, .loop ρ), (D, .deferred (some []))] cb (itQ l D ρ KN KR) (itT l lb fn) H)
  (hN : ∀ D H', KN H' → Q (XiM D :: Δ) [(D, .deferred (some []))] .normal T H')
  (hR : ∀ D H', KR H' → Q (XiM D :: Δ) [(D, .deferred (some []))] .ret T H') : XfO P Δ [] (.rangeFunc g ps assign body) Q T H := by
 intro V O w0 a w r _
 refine (wpIn_wide (n := 0)).1 (wpIn_rangeFunc ?_)
 intro f _
 obtain ⟨ρ, hρ⟩ : ∃ ρ : Loop, ρ = { state := .ready, pending := none, fn := f, tmps := a.tmps, params := ps, assign, body, defers := w.heap.size } := ⟨_, rfl⟩
 obtain ⟨w1, hw1⟩ : ∃ w1, (w.alloc (.deferred (some []))).alloc (.loop ρ) = w1 := ⟨_, rfl⟩
 have hE : Ext w w1 := by rw [← hw1]; exact Xml _ _ _
 have hl : w1.heap[w.heap.size + 1]? = some (.loop ρ) := by
  rw [← hw1]; have := World.alloc_heap_new (w.alloc (.deferred (some []))) (.loop ρ); rwa [World.size_alloc] at this
 have hD : w1.heap[w.heap.size]? = some (.deferred (some [])) := by
  rw [← hw1]; exact (Below.heap_alloc _ _ _ (by simp)).trans (World.alloc_heap_new w _)
 have hnb : ∀ k, w.heap.size ≤ k → ¬ XcY H k := fun k hk ⟨x, hx, e⟩ => by have := (r.hok.lt x hx k e).1; omega
 have r1 : Rel Δ V O w0 H T a w1 := r.quiet hE
 have tl : Trk O w0 H w1 (w.heap.size + 1, .loop ρ) := ⟨hl, rfl, hnb _ (by simp), .inr (Nat.le_trans r.fr.size (by simp))⟩
 have tD : Trk O w0 H w1 (w.heap.size, .deferred (some [])) := ⟨hD, rfl, hnb _ (by simp), .inr r.fr.size⟩
 have hTa : ∀ F w, Xa2 F w T ρ.tmps.toList := fun F w => by rw [hρ]; exact r.tmps.dull hT
 refine ⟨w.heap.size + 1, [XiM w.heap.size], w1, { target := .fn (.func gf) lb, args := #[.func (.yield (w.heap.size + 1)) #[] #[]] }, w1, gf, #[.func (.yield (w.heap.size + 1)) #[] #[]] ++ lb, w1, ?_, ?_, fun _ _ => trivial, ?_, fun e => (by cases e), ?_⟩
 ·rw [← hw1, hρ]; exact run_enterLoop_outer _ _ _ _ _
 ·have hgv : a.eval g = .func (.func gf) #[] lb := r.evx hg
  simp only [resolve, hgv]
  simp [go_sem, Deferred.ofValue]
 ·simp [invoke, callFunc, hf, hnm, hb]
 ·refine callsIn_wide.2 (calls_of_wp hf hb ?_)
  have r2 : Rel [] V O w0 H (itT (w.heap.size + 1) lb fn) { tmps := (#[Value.func (.yield (w.heap.size + 1)) #[] #[]] ++ lb) ++ Array.replicate (fn.ntmps - (#[Value.func (.yield (w.heap.size + 1)) #[] #[]] ++ lb).size) undef, defers := [] } w1 := by
   refine r1.redef ?_ rfl
   unfold itT
   simp only [Array.toList_append, Array.toList_replicate, Array.size_append, List.size_toArray, Xu2, Xu5]
   refine Xa2.app ?_ (Xa2.of (by simp) fun j av u h1 h2 => ?_)
   ·exact Xa2.exact (l := _ :: lb.toList)
   ·rw [List.getElem?_replicate] at h1
    split at h1
    ·cases h1; rw [Den]; trivial
    ·cases h1
  refine wp_mono (hit (w.heap.size + 1) w.heap.size ρ (by omega) (by rw [hρ]) (by rw [hρ]) (by rw [hρ]) (by rw [hρ]) (by rw [hρ]) hTa V O w0 _ w1 r2 (by
   intro p hp
   rcases List.mem_cons.1 hp with rfl | hp
   ·exact tl
   ·rw [List.mem_singleton] at hp; subst hp; exact tD)) ?_
  rintro e a3 w3 ⟨Δ3, Θ3, T3, H3, r3, t3, he, rfl, hq⟩
  have hres0 : (results fn a3.tmps).run P w3 = .ok (.tuple #[]) w3 := by simp [results, hres]
  have back : rangePost Fence.wide 0 P (w.heap.size + 1) (XpE V O w0 Q) { a with defers := [XiM w.heap.size] ++ a.defers } (.returned (.tuple #[])) w3 := by
   have hrel : ∀ w4, Rel [] V O w0 H3 T3 a3 w4 → Rel (XiM w.heap.size :: Δ) V O w0 H3 T { a with defers := [XiM w.heap.size] ++ a.defers } w4 := fun w4 r4 => r4.redef (r.tmps.dull hT) (by rw [r.defers]; rfl)
   rcases hq with ⟨rfl, hK⟩ | ⟨rfl, hK⟩
   ·have hl3 := t3 _ (List.mem_cons_self ..)
    have hD3 := t3 _ (List.mem_cons_of_mem _ (List.mem_singleton.2 rfl))
    refine ⟨_, _, run_endLoop hl3.1 (by rw [hρ]; simp), ?_⟩
    have e0 : ρ.pending = none := by rw [hρ]
    rw [e0]
    refine ⟨_, [(w.heap.size, .deferred (some []))], T, H3, hrel _ (r3.putObj _ hl3.1 rfl hl3.2.2.1 hl3.2.2.2), fun p hp => ?_, hN _ _ hK⟩
    rw [List.mem_singleton] at hp; subst hp
    exact ⟨(World.putObj_heap_other (by simp)).trans hD3.1, hD3.2⟩
   ·have hl3 := t3 _ (List.mem_cons_self ..)
    have hD3 := t3 _ (List.mem_cons_of_mem _ (List.mem_singleton.2 rfl))
    refine ⟨_, _, run_endLoop hl3.1 (by simp [Xgy]), ?_⟩
    refine wpIn_ret ⟨_, [(w.heap.size, .deferred (some []))], T, H3, hrel _ (r3.putObj _ hl3.1 rfl hl3.2.2.1 hl3.2.2.2), fun p hp => ?_, hR _ _ hK⟩
    rw [List.mem_singleton] at hp; subst hp
    exact ⟨(World.putObj_heap_other (by simp)).trans hD3.1, hD3.2⟩
  rcases he with rfl | rfl
  ·exact ⟨r3.defers, _, hres0, back⟩
  ·exact ⟨r3.defers, _, hres0, back⟩
def Xuw (P : Program) (fn : Func) (Q : AV → List Hp → Prop) : Xib := fun Δ Θ e T H => (e = .ret ∨ e = .normal) ∧ (Δ = [] ∨ ∃ D, Δ = [XiM D] ∧ (D, .deferred (some [])) ∈ Θ) ∧ ∃ r H', Res P fn T H r H' ∧ Q r H'
theorem Xdr {fn : Func} {Q : AV → List Hp → Prop} {e : Exit} (h : Xbx P fn Q e T H) : Xuw P fn Q [] Θ e T H := ⟨h.1, .inl rfl, h.2⟩
theorem Xoc {fn : Func} {Q : AV → List Hp → Prop} {e : Exit} {D : Nat} (h : Xbx P fn Q e T H) : Xuw P fn Q [XiM D] [(D, .deferred (some []))] e T H := ⟨h.1, .inr ⟨D, rfl, List.mem_singleton.2 rfl⟩, h.2⟩
theorem XkX {f : FuncId} {fn : Func} {c : Code} {args : List AV} {Q : AV → List Hp → Prop} (hf : P.funcs[f]? = some fn) (hb : fn.body = some c)
  (h : XfO P [] [] c (Xuw P fn Q) (args ++ List.replicate (fn.ntmps - args.length) .top) H) : Xa8 P f H args Q := by
 intro V w vs hV hH hd hgl
 have hlen := hd.len
 refine (callsIn_wide (n := 0)).1 (callsIn_of_wp_marks hf hb trivial (wpIn_wide.2 ?_))
 have r : Rel [] V (XcY H) w H (args ++ List.replicate (fn.ntmps - args.length) .top) { tmps := vs.toArray ++ Array.replicate (fn.ntmps - vs.toArray.size) undef, defers := [] } w := by
  refine ⟨?_, hH, Fr.refl _ _, fun x hx k hk => .inl ⟨x, hx, hk⟩, rfl, hV, hgl⟩
  simp only [Array.toList_append, Array.toList_replicate, List.size_toArray, hlen]
  refine hd.app (Xa2.of (by simp) fun j av u h1 h2 => ?_)
  rw [List.getElem?_replicate] at h1
  split at h1
  ·cases h1; rw [Den]; trivial
  ·cases h1
 refine wp_mono (h V (XcY H) w _ w r (fun p hp => by cases hp)) ?_
 rintro e a' w' ⟨Δ1, Θ1, T', H1, r1, t1, he, hΔ, res, H', hres, hq⟩
 have fin : ∀ w2, Rel Δ1 V (XcY H) w H1 T' a' w2 → ∃ v, (results fn a'.tmps).run P w2 = .ok v w2 ∧ ∃ r H' v', Q r H' ∧ Ending.returned v = .returned v' ∧ Den (FB V H') w2 r v' ∧ HOk V w2 H' ∧ Fr (XcY H) w w2 ∧ ∀ h ∈ H', ∀ k, h.blk = some k → XcY H k ∨ w.heap.size ≤ k := fun w2 r2 => by
  obtain ⟨v, g1, g2, g3, g4⟩ := hres _ V (XcY H) w a' w2 r2
  exact ⟨v, g1, res, H', v, hq, rfl, g2, g3, r2.fr, fun x hx k hk => by obtain ⟨y, hy, e⟩ := g4 x hx k hk; exact r2.own y hy k e⟩
 have hleave : LeavesInM Fence.wide 0 P fn a'.tmps (fun e w' => ∃ r H' v, Q r H' ∧ e = .returned v ∧ Den (FB V H') w' r v ∧ HOk V w' H' ∧ Fr (XcY H) w w' ∧ ∀ h ∈ H', ∀ k, h.blk = some k → XcY H k ∨ w.heap.size ≤ k) a'.defers .returning w' := by
  rw [r1.defers]
  rcases hΔ with rfl | ⟨D, rfl, hm⟩
  ·exact fin w' r1
  ·have tD := t1 _ hm
   exact ⟨by simp, .inl ⟨D, _, rfl, run_takeDeferred tD.1, fin _ (r1.putObj _ tD.1 rfl tD.2.2.1 tD.2.2.2)⟩⟩
 rcases he with rfl | rfl
 ·exact hleave
 ·exact hleave
end
end Go.Proofs.YtdpobjakdplljaaGreatDoor
