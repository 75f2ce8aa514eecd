import Derived.Test.YtdpobjakdplljaaGreatDoorW32
import Derived.Test.YtdpobjakdplljaaGreatDoorW8
import Derived.Test.YtdpobjakdplljaaGreatDoorW30
import Derived.Test.YtdpobjakdplljaaGreatDoorW23
/- The reference of scripts: the text of events, exactly. -/
set_option linter.unusedSimpArgs false
set_option linter.unusedVariables false
namespace Go.Proofs.YtdpobjakdplljaaGreatDoor
open Go.RowKit
def XuT (x : List UInt8 × Int) : AV := .tup [.x (.string (bs x.1)), .x (.int .i64 x.2)]
theorem Xna (e : EF) (he : EOk e) : (Xeb e).length ≤ 8200100 := by
 rw [Xll, Xvb]
 have h1 := XkM e.kind
 have h2 := Xk1 e.kind
 have h3 : (Xb5 e (XgW e.kind)).length ≤ (XgW e.kind).length * 4100000 := by
  generalize XgW e.kind = fs
  clear h2
  induction fs with
  | nil => simp [Xb5]
  | cons f fs ih =>
   have hf : (XcA e f).length ≤ 4000010 := by
    have q0 := he.job
    have q1 := XcH e.data
    have q6 := he.data
    have q2 := XbP e.time.toNat (by have := he.time; omega)
    have q3 := Xfn e.code he.code.1 he.code.2
    have q4 := Xfn e.client he.client.1 he.client.2
    have q5 := Xfn e.num he.num.1 he.num.2
    unfold XcA
    split
    ·omega
    split
    ·split <;> simp [wOk, Xdb]
    split
    ·omega
    split
    ·omega
    split
    ·omega
    split <;> omega
   simp only [Xb5, List.flatMap_cons, Xvb, Xu2] at ih ⊢
   rw [Nat.succ_mul]
   omega
 have h4 : (XgW e.kind).length * 4100000 ≤ 2 * 4100000 := Nat.mul_le_mul_right _ h2
 omega
theorem XlP (l : List EF) (i : Nat) (h : i < l.length) : XcZ (l.take (i + 1)) = XcZ (l.take i) ++ (Xeb l[i] ++ [10]) := by
 rw [Xa4 l i h]; simp only [XcZ, List.flatMap_append, List.flatMap_cons, List.flatMap_nil, List.append_nil]
theorem Xjo : ∀ l : List EF, (∀ e ∈ l, EOk e) → (XcZ l).length ≤ l.length * 8200200
 | [], _ => by simp [XcZ]
 | e :: l, h => by
  have h1 := Xna e (h e (by simp))
  have h2 := Xjo l fun g hg => h g (by simp [hg])
  simp only [XcZ, List.flatMap_cons, Xvb, Xu2, Xu5] at h2 ⊢
  rw [Nat.succ_mul]
  omega
set_option maxRecDepth 100000 in
set_option maxHeartbeats 8000000 in
theorem XqP (l : List EF) (hl : ∀ e ∈ l, EOk e) (hn : l.length ≤ 1000000) (ht : (XcZ l).length ≤ 300000000) : Xa8 Tryz.prog 15 [] [.sq l.length (va l)] (fun r H' => r = XuT (Xd5 l) ∧ H' = []) := by
 have hl' := Lib.hid hl
 clear hl
 have hpre : ∀ i, (XcZ (l.take i)).length ≤ (XcZ l).length := fun i => by
  have := congrArg (fun z => (XcZ z).length) (List.take_append_drop i l)
  simp only [XcZ, List.flatMap_append, Xvb] at this ⊢
  omega
 have hpre' := Lib.hid hpre
 clear hpre
 refine XaG Tryz.func15 rfl ?_
 simp only [Tryz.ntmps15, Xu2, Xu5, Xu6, Xu7, Xva, Xu9, Nat.reduceAdd, Nat.reduceSub]
 (repeat' (first | with_reducible (first | refine Xah ?_ | refine Xac ?_ | refine Xan ?_ | refine Xat ?_ | refine Xax ?_ | refine Xae ?_ | refine Xaa ?_ | refine Xaw ?_) | (refine Xai _ rfl (fun h => ?_) (fun h => ?_) <;> ((try (simp only [whn] at h)); skip)) | ((apply Xad rfl); (case h => ((first | (apply Xab 0 rfl; (first | exact Xar _ rfl | exact Xao _ rfl)) | (apply Xab 3 rfl; (exact XaX _ _ _ _ _ _ HEl.out rfl rfl)) | (apply XaF; (case hs => (intro _ _ h; cases h)); (case hx => rfl); (case hrun => (intro w; simp [wtb, AV.val, go_sem]; skip; rfl)))))); (case hT => ((try simp only [wtn]); rfl))) | fail))
 ·refine Xaf _ _ (Xc2 rfl (RV.tmp _) (RV.tmp _) (XaK.mk' [] _ (XuZ _) (XaE.refl _ _) (VwL.refl _ _))) ?_
  refine ⟨?_, rfl⟩
  unfold Xd5
  rw [if_pos (by omega)]
  rfl
 have h1000 : ¬ 1000 < l.length := by omega
 apply XaT (S := Nat) (fun q => frm 43 [(0, .sq l.length (va l)), (4, .x (.string (bs (XcZ (l.take q))))), (5, .x (.int .i64 q))]) (fun _ => []) (fun q => q ≤ l.length) (fun q => l.length - q) 0
 case h0 => exact (XaK.mk' [] _ (XuZ _) (XaE.refl _ _) (by (repeat' (first | exact VwL.nil | (refine VwL.cons ?_ ?_) | exact Vw.refl _ | exact Vw.top _ | fail))))
 case hi => exact Nat.zero_le _
 rintro i hi
 simp only [frm, Xu6, Xu7, Xu0, Xu1, Xvd, Xve]
 by_cases hlt : i < l.length
 ·have hL := Xty l[i] (hl'.out _ (List.getElem_mem hlt))
  have hd := XfQ l i hlt
  have hp := hpre'.out (i + 1)
  have hs := XlP l i hlt
  have hlen := congrArg List.length hs
  rw [Xvb] at hlen
  have hs' := Lib.hid hs
  clear hs
  unfold EF.cells at hL
  (repeat' (first | with_reducible (first | refine Xah ?_ | refine Xac ?_ | refine Xan ?_ | refine Xax ?_ | refine Xae ?_ | refine Xaa ?_ | refine Xag ?_) | (refine Xai _ rfl (fun h => ?_) (fun h => ?_) <;> ((try (simp only [whn] at h)); first | (exfalso; omega; done) | skip)) | ((apply Xad rfl); (case h => ((first | (apply Xab 0 rfl; (first | exact Xar _ rfl | exact Xao _ rfl)) | (apply Xab 3 rfl; (exact XaX _ _ _ _ _ _ HEl.out rfl rfl)) | (apply Xab 6 rfl; (exact XaD _ _ _ _ _ rfl rfl XaO.out (by first | exact XuY rfl | fail) (by first | exact XuY rfl | fail))) | (apply Xab 7 rfl; (exact XaC _ _ _ _ _ _ _ _ _ _ rfl rfl rfl HEl.out rfl (by first | omega | fail) (by simp; first | omega | fail))) | (apply Xab 11 rfl; (exact Xaz 39 Tryz.f39 _ _ rfl rfl Tryz.func39 (by decide) rfl (VwL.refl _ _) (hL))) | (apply Xab 12 rfl; (exact Xbq _ _ _ _ rfl rfl rfl (by omega))) | (apply XaF; (case hs => (intro _ _ h; cases h)); (case hx => rfl); (case hrun => (intro w; simp [wtb, AV.val, go_sem]; (try go_bits); rfl)))))); (case hT => ((try simp (disch := omega) only [wtn, hd, Xu3, Xu0, Xu1, Xu4, Xu8, Nat.reduceAdd, Nat.reduceMul, Nat.reduceSub, ↓reduceIte, Nat.reduceEqDiff]); rfl))) | fail))
  refine ⟨i + 1, by omega, by omega, ?_⟩
  rw [hs'.out]
  exact (XaK.mk' [] _ (XuZ _) (XaE.refl _ _) (by (repeat' (first | exact VwL.nil | (refine VwL.cons ?_ ?_) | exact Vw.refl _ | exact Vw.top _ | fail))))
 ·obtain rfl : i = l.length := by omega
  rw [List.take_length]
  (repeat' (first | with_reducible (first | refine Xah ?_ | refine Xac ?_ | refine Xat ?_ | refine Xax ?_ | refine XaW ?_ | refine Xae ?_ | refine Xaa ?_ | refine XaM ?_ | refine Xaw ?_ | refine XaI ?_) | (refine Xai _ rfl (fun h => ?_) (fun h => ?_) <;> first | (exact absurd h (by decide)) | ((try (simp only [whn] at h)); skip)) | ((apply Xad rfl); (case h => ((first | (apply Xab 0 rfl; (first | exact Xar _ rfl | exact Xao _ rfl)) | (apply Xab 3 rfl; (exact XaX _ _ _ _ _ _ HEl.out rfl rfl)) | (apply XaF; (case hs => (intro _ _ h; cases h)); (case hx => rfl); (case hrun => (intro w; simp [wtb, AV.val, go_sem]; skip; rfl)))))); (case hT => ((try simp only [wtn]); rfl))) | fail))
  ·refine Xaf _ _ (Xc2 rfl (RV.tmp _) (RV.tmp _) (XaK.mk' [] _ (XuZ _) (XaE.refl _ _) (VwL.refl _ _))) ?_
   refine ⟨?_, rfl⟩
   unfold Xd5
   rw [if_neg (by omega), if_pos (by omega)]
   rfl
  have h65 : ¬ 65536 < (XcZ l).length := by omega
  have hP := Xor (XcZ l) (by omega)
  unfold XtR at hP
  generalize hp : XcP (XcZ l) = p at hP
  have hS := XoZ l p.1 (by omega)
  have hp' := Lib.hid hp
  clear hp h
  (repeat' (first | with_reducible (first | refine Xah ?_ | refine Xac ?_ | refine Xat ?_ | refine Xax ?_ | refine Xae ?_ | refine Xaa ?_ | refine Xaw ?_) | (refine Xai _ rfl (fun h => ?_) (fun h => ?_) <;> ((try (simp only [whn] at h)); skip)) | ((first | apply Xad rfl | apply Xa7 _ _ rfl rfl rfl); (case h => ((try (intro (hp : (_ : Bool) = true); ((try simp only [Bool.not_eq_true'] at hp); (try simp only [hp, wte]); (try simp only [whn] at hp)))); (first | (apply Xab 0 rfl; (first | exact Xar _ rfl | exact Xao _ rfl)) | (apply Xab 1 rfl; (exact Xcz _ _ _ _ _ rfl rfl rfl rfl)) | (apply Xab 2 rfl; (exact XaL _ _ _ _ rfl rfl rfl)) | (apply Xab 11 rfl; (first | exact Xaz 11 Tryz.f11 _ _ rfl rfl Tryz.func11 (by decide) rfl (VwL.refl _ _) (hP) | exact Xaz 12 Tryz.f12 _ _ rfl rfl Tryz.func12 (by decide) rfl (VwL.refl _ _) (hS))) | (apply XaF; (case hs => (intro _ _ h; cases h)); (case hx => rfl); (case hrun => (intro w; simp [wtb, AV.val, go_sem]; skip; rfl)))))); (case hT => ((try simp only [wtn]); rfl))) | fail))
  ·refine Xaf _ _ (Xc2 rfl (RV.tmp _) (RV.tmp _) (XaK.mk' [] _ (XuZ _) (XaE.refl _ _) (VwL.refl _ _))) ?_
   refine ⟨?_, rfl⟩
   unfold Xd5
   rw [if_neg h1000, if_neg h65, hp'.out, if_neg (by rintro ⟨a, b⟩; rcases h with h | h <;> simp_all)]
   rfl
  ·refine Xaf _ _ (Xc2 rfl (RV.tmp _) (RV.tmp _) (XaK.mk' [] _ (XuZ _) (XaE.refl _ _) (VwL.refl _ _))) ?_
   refine ⟨?_, rfl⟩
   unfold Xd5
   rw [if_neg h1000, if_neg h65, hp'.out, if_pos (by simpa using h)]
   rfl
section
variable {P : Program} {Δ : List Deferred} {V O : Nat → Prop} {w0 w w' : World} {B H H' R : List Hp} {T T' : List AV} {a a' : Act} {o : Oper} {ops : Array Oper} {Q : XcS} {listed : Array Bool} {fuel : Nat}
def XhZ (wr : World) (R : List Hp) (w : World) : Prop := ∀ k, k < wr.heap.size → ¬ XcY R k → w.heap[k]? = wr.heap[k]?
def Xrh (P : Program) (ops : Array Oper) (Q : XcS) (fuel : Nat) (listed : Array Bool) (T : List AV) (H : List Hp) : Prop :=
 ∀ Δ V O w0 a w, Rel Δ V O w0 H T a w → XcC P .any ops (lift Δ V O w0 Q) [] (XhZ w H) fuel listed a w
def XsR (P : Program) (ops : Array Oper) (Q : XcS) (R : List Hp) (fuel : Nat) (listed : Array Bool) (T : List AV) (H : List Hp) : Prop :=
 ∀ Δ V O w0 wr a w, Rel Δ V O w0 H T a w → XhZ wr R w → wr.heap.size ≤ w.heap.size → (∀ h ∈ H, ∀ k, h.blk = some k → XcY R k ∨ wr.heap.size ≤ k) → XcC P .any ops (lift Δ V O w0 Q) [] (XhZ wr R) fuel listed a w
theorem Xfx {id : Nat} {l : List Oper} (hm : P.follows .mixedOrders = true) (h : Xrh P l.toArray Q l.length (Array.replicate l.length false) T H) : awp P (.region id l.toArray true) Q T H :=
 XcF hm fun Δ V O w0 a w r => (h Δ V O w0 a w r).any
theorem Xcf {T' : List AV} {H' : List Hp} (hT : T = T') (hH : H = H') (h : Xrh P ops Q fuel listed T' H') : Xrh P ops Q fuel listed T H := hT ▸ hH ▸ h
theorem Xb0 {T' : List AV} {H' : List Hp} (hT : T = T') (hH : H = H') (h : XsR P ops Q R fuel listed T' H') : XsR P ops Q R fuel listed T H := hT ▸ hH ▸ h
theorem XlZ (i : Nat) {o : Oper} {l : List Oper} (hi : Xfe l i = some o) (hg : o.guard = none) (hc : Xgf l.toArray listed i = true) (hpan : ∀ c T H, ¬ Q (.panic c) T H) (av : AV)
  (h : ∀ V a w, OK V H (ev T) o a w → ∃ v, (∀ w', XhZ w H w' → (execOp a.eval o).run P w' = .ok (.value v) w') ∧ Den (FB V H) w av v) (hK : Xrh P l.toArray Q fuel (listed.setIfInBounds i true) (Xb8 T o.dst av) H) : Xrh P l.toArray Q (fuel + 1) listed T H := by
 have hi : l.toArray[i]? = some o := by rw [List.getElem?_toArray, ← Xcm]; exact hi
 intro Δ V O w0 a w r
 obtain ⟨v, hv, hd⟩ := h V a w (r.oks o)
 unfold Xgf at hc
 simp only [Bool.and_eq_true] at hc
 exact XcC.first hi hc.1.1 (fun c a w ⟨T, H, _, hq⟩ => absurd hq (hpan c T H)) (fun j o hj => by simp at hj) (Region.free_spec hi hc.1.2) (by simpa using hc.2) (.inl ⟨by simp [Region.wanted, hg], hv⟩) (fun _ _ _ => rfl) (hK Δ V O w0 _ w (r.put _ hd))
theorem Xci (i : Nat) {o : Oper} {l : List Oper} (hi : Xfe l i = some o) (hg : o.guard = none) (hc : Xgf l.toArray listed i = true) (hpan : ∀ c T H, ¬ Q (.panic c) T H) (av : AV) (h : XlU P o (ev T) H av) (hK : Xrh P l.toArray Q fuel (listed.setIfInBounds i true) (Xb8 T o.dst av) H) : Xrh P l.toArray Q (fuel + 1) listed T H :=
 XlZ i hi hg hc hpan av (fun V a w ok => by obtain ⟨v, hv, hd⟩ := h V a w ok; exact ⟨v, fun w' _ => hv w', hd⟩) hK
theorem XjD {l : List Oper} (h : XsR P l.toArray Q H fuel listed T H) : Xrh P l.toArray Q fuel listed T H := fun Δ V O w0 a w r =>
 h Δ V O w0 w a w r (fun _ _ _ => rfl) (Nat.le_refl _) fun x hx k hk => .inl ⟨x, hx, hk⟩
theorem Xgv (hr : Region.ready .any ops listed = []) (h : Q .normal T H) : XsR P ops Q R fuel listed T H := fun Δ V O w0 wr a w r _ _ _ => by
 cases fuel with
 | zero => exact ⟨hr, ⟨T, H, r, h⟩⟩
 | succ n => exact ⟨fun _ => ⟨T, H, r, h⟩, fun j hj => by rw [hr] at hj; cases hj⟩
theorem Xjl {j : Nat} (hi : ops[j]? = some o) (hg : o.guard = none) (h : Stp P o T H (XsR P ops Q R fuel (listed.setIfInBounds j true))) (Δ : List Deferred) (V O : Nat → Prop) (w0 wr : World) (r : Rel Δ V O w0 H T a w) (hS : XhZ wr R w) (hz : wr.heap.size ≤ w.heap.size) (hown : ∀ h ∈ H, ∀ k, h.blk = some k → XcY R k ∨ wr.heap.size ≤ k) :
  wpOp P ops (lift Δ V O w0 Q) j (fun a' w' => (([] : List Nat).contains j = false → XhZ wr R w → XhZ wr R w') ∧ XcC P .any ops (lift Δ V O w0 Q) [] (XhZ wr R) fuel (listed.setIfInBounds j true) a' w') a w := by
 unfold wpOp
 simp only [hi]
 rw [if_pos (by simp [Region.wanted, hg])]
 have r0 : Rel Δ V O w0 ([] ++ H) T a w := r
 refine .inl (h _ _ _ _ a w _ _ r0.aside fun T' H' a' w' hk hr => ?_)
 obtain ⟨r', _⟩ := r0.rejoin hr
 have hS' : XhZ wr R w' := fun k hk hn => by
  refine (hr.fr.block k (Nat.lt_of_lt_of_le hk hz) fun ⟨y, hy, e⟩ => ?_).trans (hS k hk hn)
  rcases hown y hy k e with h1 | h1
  ·exact hn h1
  ·omega
 refine ⟨fun _ _ => hS', hk Δ V O w0 wr a' w' r' hS' (Nat.le_trans hz hr.fr.size) fun x hx k e => ?_⟩
 rcases hr.own x hx k e with ⟨y, hy, e'⟩ | h1
 ·exact hown y hy k e'
 ·exact .inr (Nat.le_trans hz h1)
theorem XdR (i : Nat) {o : Oper} {l : List Oper} (hr : Region.ready .any l.toArray listed = [i]) (hi : Xfe l i = some o) (hg : o.guard = none) (h : Stp P o T H (XsR P l.toArray Q R fuel (listed.setIfInBounds i true))) : XsR P l.toArray Q R (fuel + 1) listed T H := fun Δ V O w0 wr a w r hS hz hown =>
 ⟨fun h0 => (by rw [hr] at h0; cases h0), fun j hj => by
  rw [hr, List.mem_singleton] at hj; subst hj
  exact Xjl (by rw [List.getElem?_toArray, ← Xcm]; exact hi) hg h Δ V O w0 wr r hS hz hown⟩
end
open Go.RowKit
section
variable {P : Program} {Δ : List Deferred} {V O : Nat → Prop} {w0 w w' : World} {H H' D : List Hp} {T T' : List AV} {a : Act} {o : Oper} {ρ : Operand → AV} {Q : XcS}
theorem Xlg {c : Code} (i : Nat) {ad : Option Addr} {n cap : Nat} {e : TypeId} {size : Nat} {cells : List AV} (hi : H[i]? = some (.row ad n cap e size cells))
  (h : n ≤ cap → cap ≤ maxLen → ((ad = none ∧ n = 0 ∧ cap = 0) ∨ ∃ b, ad = some ⟨b, 0, none⟩) → awp P c Q T H) : awp P c Q T H := fun Δ V O w0 a w r => by
 obtain ⟨vals, hd, hown, hone⟩ := r.hp i _ hi
 rcases hown.2 with ⟨e1, rfl⟩ | ⟨g', cap1, cur, e1, hbg, hg, hnc, hcm, hcs, htake⟩
 ·cases e1; exact h (Nat.le_refl _) (Nat.zero_le _) (.inl ⟨rfl, rfl, rfl⟩) Δ V O w0 a w r
 ·simp only [Value.slice.injEq] at e1
  obtain ⟨rfl, -, rfl⟩ := e1
  exact h hnc hcm (.inr ⟨_, rfl⟩) Δ V O w0 a w r
theorem Src.cut {x : Operand} (q : Nat) {b off n cap l h : Nat} {cells news : List AV} (hx : ρ x = .x (.slice (if cap = l then some ⟨b, off, none⟩ else some ⟨b, off + l * 1, none⟩) (h - l) (cap - l))) (hq : H[q]? = some (.box b cells)) (h1 : l ≤ h) (h2 : h ≤ cap) (h3 : cap ≤ maxLen) (h4 : news = (cells.drop (off + l)).take (h - l)) : Src ρ H x (h - l) news := by
 by_cases hc : cap = l
 ·rw [if_pos hc] at hx
  refine Src.part q hx hq (by omega) (by omega) ?_
  rw [h4, show h - l = 0 by omega, List.take_zero, List.take_zero]
 ·rw [if_neg hc, Nat.mul_one] at hx
  exact Src.part q hx hq (by omega) (by omega) h4
end
section
variable {P : Program} {H : List Hp} {T : List AV} {o : Oper} {ops : Array Oper} {Q : XcS}
end
open Go.RowKit
theorem Xr6 (l : List UInt8) (i : Nat) (c : UInt8) : spl (u8a l) i [.x (.int .u8 (c.toNat : Nat))] = u8a (l.take i ++ [c] ++ l.drop (i + 1)) := by simp [spl, u8a, u8s]
theorem Xpp (l : List UInt8) (j : Nat) (h : j < l.length) : ((u8a l).drop j).getD 0 .top = .x (.int .u8 ((l.getD j 0).toNat : Nat)) := by rw [Xle l j h]; rfl
theorem Src.bytesOf {ρ : Operand → AV} {H : List Hp} {x : Operand} (q : Nat) {b n cap : Nat} (full : List UInt8) (hx : ρ x = .x (.slice (some ⟨b, 0, none⟩) n cap)) (hq : H[q]? = some (.box b (u8a full))) (h1 : n ≤ cap) (h2 : cap ≤ maxLen) (h3 : n ≤ full.length) : Src ρ H x (full.take n).length (u8a (full.take n)) := by
 rw [List.length_take, Nat.min_eq_left h3]
 exact Src.part q hx hq h1 h2 (by simp [u8a, u8s])
theorem Src.cut2 {ρ : Operand → AV} {H : List Hp} {x : Operand} (q : Nat) {b n cap l h : Nat} {cells news : List AV} (hx : ρ x = .x (.slice (if cap = l then some ⟨b, 0, none⟩ else some ⟨b, l, none⟩) (h - l) (cap - l))) (hq : H[q]? = some (.box b cells)) (h1 : l ≤ h) (h2 : h ≤ cap) (h3 : cap ≤ maxLen) (h4 : news = (cells.drop l).take (h - l)) : Src ρ H x (h - l) news :=
 Src.cut (n := n) (off := 0) q (by rw [Nat.zero_add, Nat.mul_one]; exact hx) hq h1 h2 h3 (by rw [Nat.zero_add]; exact h4)
theorem XjW {P : Program} {o : Oper} {ρ : Operand → AV} {H : List Hp} (i : Nat) (t : TypeId) (x : Operand) (b j : Nat) (full : List UInt8) (ho : o.op = .load t x) (hx : ρ x = .x (.pointer (some ⟨b, j, none⟩))) (hi : H[i]? = some (.box b (u8a full))) (ht : Xjy P t = some (false, 1)) (h : j < full.length) : Evl P o ρ H (.x (.int .u8 ((full.getD j 0).toNat : Nat))) := by
 have := XaA i t x b j (u8a full) false 1 ho hx hi ht (by rw [Xdp]; omega) (by rw [Xdp]; omega)
 rwa [show ldA false 1 ((u8a full).drop j) = .x (.int .u8 ((full.getD j 0).toNat : Nat)) from Xpp full j h] at this
theorem VwH.rowboxe {D : List Hp} {g n cap : Nat} {e : TypeId} {l l' : List AV} (h : l = l') : VwH D (.row (some ⟨g, 0, none⟩) n cap e 1 l) (.box g l') := h ▸ VwH.rowbox g n cap e l
theorem Xlu (c : UInt8) : brc [c] ≤ 1 := List.count_le_length
theorem XjJ {a b : List UInt8} (h : a.Sublist b) : brc a ≤ brc b := h.count_le _
theorem Xen (l : List UInt8) {i n : Nat} (h : i ≤ n) : l.take n = l.take i ++ (l.drop i).take (n - i) := by
 have := List.take_add (l := l) (i := i) (j := n - i)
 rwa [show i + (n - i) = n from by omega] at this
theorem XrS (l : List UInt8) (i n : Nat) (c : UInt8) (hi : i < n) (hn : n ≤ l.length) : brc ((l.take i ++ [c] ++ l.drop (i + 1)).take n) ≤ brc (l.take n) + 1 := by
 have e1 : (l.take i ++ [c] ++ l.drop (i + 1)).take n = l.take i ++ [c] ++ (l.drop (i + 1)).take (n - (i + 1)) := by
  rw [List.take_append, List.take_of_length_le (by simp; omega)]
  congr 2
  simp; omega
 have h1 := XjJ (show (l.take i ++ (l.drop (i + 1)).take (n - (i + 1))).Sublist (l.take n) by
  rw [Xen l (Nat.le_of_lt hi)]
  refine List.Sublist.append (List.Sublist.refl _) ?_
  rw [Xen (l.drop i) (show 1 ≤ n - i by omega), List.drop_drop]
  have : n - i - 1 = n - (i + 1) := by omega
  rw [this]
  exact List.sublist_append_right _ _)
 have h2 := Xlu c
 rw [e1]
 simp only [Xkm] at h1 ⊢
 omega
theorem XrV (l : List UInt8) (i n : Nat) (hi : i < n) : brc ((l.take i ++ (l.drop (i + 1)).take (n - (i + 1))).take (i + (n - (i + 1)))) ≤ brc (l.take n) := by
 refine XjJ ((List.take_sublist _ _).trans ?_)
 rw [Xen l (Nat.le_of_lt hi)]
 refine List.Sublist.append (List.Sublist.refl _) ?_
 rw [Xen (l.drop i) (show 1 ≤ n - i by omega), List.drop_drop]
 have : n - i - 1 = n - (i + 1) := by omega
 rw [this]
 exact List.sublist_append_right _ _
theorem Xrn (l : List UInt8) (i n : Nat) (c : UInt8) (hi : i ≤ n) : brc ((l.take i ++ [c] ++ (l.drop i).take (n - i)).take (i + 1 + (n - i))) ≤ brc (l.take n) + 1 := by
 have h1 := XjJ (List.take_sublist (i + 1 + (n - i)) (l.take i ++ [c] ++ (l.drop i).take (n - i)))
 have h2 := Xlu c
 rw [Xen l hi]
 simp only [Xkm] at h1 ⊢
 omega
theorem XrK (l : List UInt8) {i n : Nat} (hi : i ≤ n) : brc (l.take i) ≤ brc (l.take n) := by
 rw [Xen l hi, Xkm]; omega
attribute [local simp] Xdp
set_option maxRecDepth 100000 in
set_option maxHeartbeats 8000000 in
theorem Xsg (bd : Nat) (l : List Int) (k : Nat) (s : List UInt8) (hd : DK l) (hk : k ≤ l.length) (hs : s.length ≤ 70000) : Xa8 Tryz.prog 22 [.box bd [.sq l.length (ia l), .x (.int .i64 k)]] [.x (.pointer (some ⟨bd, 0, none⟩)), .x (.string (bs s))] (fun r H' => ∃ (s' : List UInt8) (k' : Nat), r = .x (.string (bs s')) ∧ H' = [.box bd [.sq l.length (ia l), .x (.int .i64 k')]] ∧ k' ≤ l.length ∧ s'.length ≤ s.length + 2 ∧ brc s' ≤ brc s + 2) := by
 refine XaG Tryz.func22 rfl ?_
 simp only [Tryz.ntmps22, Xu2, Xu5, Xu6, Xu7, Xva, Xu9, Nat.reduceAdd, Nat.reduceSub]
 (repeat' (first | with_reducible (first | refine Xah ?_ | refine Xac ?_ | refine Xan ?_ | refine Xae ?_ | refine Xaa ?_) | ((apply Xad rfl); (case h => (((apply Xab 0 rfl; (first | exact Xar _ rfl | exact Xao _ rfl))))); (case hT => ((try simp only [wtn]); rfl))) | (refine Xaj rfl ?_; ((first | (refine Xaq 11 rfl ?_; ((refine Xam 43 Tryz.f43 [_] _ _ _ rfl rfl Tryz.func43 (by decide) rfl (Xvc (l₁ := [_])) (VwL.refl _ _) (XbC _ l k 3 hd hk (by omega) (by omega)) ?_; rintro _ _ ⟨v1, k2, rfl, rfl, hv1, hk2⟩))) | (refine Xaq 12 rfl ?_; ((refine Xo9 _ _ 5 _ _ rfl (by kernel_rfl) (by kernel_rfl) (by kernel_rfl) (by kernel_rfl) rfl (by omega) (fun b cap hc1 hc2 => ?_))))); apply Xak; (case hT => ((try simp only [wtn]); rfl)); (case hH => ((try simp only [wtn, Xu3]); rfl)))) | fail))
 apply XaT (S := Nat × Nat × List UInt8 × Nat × Nat × Option Nat) (fun q => frm 72 [(0, .x (.pointer (some ⟨bd, 0, none⟩))), (5, .x (.slice (q.2.2.2.2.2.map fun g => ⟨g, 0, none⟩) q.2.2.2.1 q.2.2.2.2.1)), (6, .x (.int .i64 q.1))]) (fun q => .box bd [.sq l.length (ia l), .x (.int .i64 q.2.1)] :: (match q.2.2.2.2.2 with | some g => [.box g (u8a q.2.2.1)] | none => []))
  (fun q => q.1 ≤ 2 ∧ q.2.1 ≤ l.length ∧ q.2.2.2.1 ≤ q.2.2.1.length ∧ q.2.2.2.1 + q.1 ≤ s.length + 2 ∧ q.2.2.2.1 ≤ q.2.2.2.2.1 ∧ q.2.2.2.2.1 ≤ maxLen ∧ (q.2.2.2.2.2 = none → q.2.2.2.1 = 0 ∧ q.2.2.2.2.1 = 0) ∧ brc (q.2.2.1.take q.2.2.2.1) + q.1 ≤ brc s + 2) (fun q => q.1) (v1, k2, s, s.length, cap, some b)
 case h0 => exact (XaK.mk' [] _ (XuZ _) (XaE.refl _ _) (by (repeat' (first | exact VwL.nil | (refine VwL.cons ?_ ?_) | exact Vw.refl _ | exact Vw.top _ | fail))))
 case hi => exact ⟨by simp only; omega, hk2, Nat.le_refl _, by simp only; omega, hc1, hc2, (fun h => by cases h), by simp only [List.take_length]; omega⟩
 rintro ⟨m, kk, full, n, cap, ob⟩ ⟨g1, g2, g3, g4, g5, g6, g7, g8⟩
 simp only at g1 g2 g3 g4 g5 g6 g7 g8
 have g8' := Lib.hid g8
 clear g8
 cases ob with
 | none =>
  obtain ⟨rfl, rfl⟩ := g7 rfl
  simp only [Option.map_none]
  simp only [frm, Xu6, Xu7, Xu0, Xu1, Xvd, Xve]
  (repeat' (first | with_reducible (first | refine Xah ?_ | refine Xac ?_ | refine Xat ?_ | refine XaW ?_ | refine Xae ?_ | refine Xaa ?_ | refine XaM ?_ | refine XaI ?_) | (refine Xai _ rfl (fun h => ?_) (fun h => ?_) <;> first | (exact absurd h (by decide)) | ((try (simp only [] at h)); skip)) | ((first | apply Xad rfl | apply Xa7 _ _ rfl rfl rfl); (case h => ((try (intro (hp : (_ : Bool) = true); ((try simp only [hp]); (try simp only [whn] at hp)))); (first | (apply Xab 0 rfl; (first | exact Xar _ rfl | exact Xao _ rfl)) | (apply Xab 1 rfl; (exact Xbn _ _ _ _ _ rfl rfl rfl rfl)) | (apply XaF; (case hs => (intro _ _ h; cases h)); (case hx => rfl); (case hrun => (intro w; simp [wtb, AV.val, go_sem]; skip; rfl)))))); (case hT => ((try simp only [wtn]); rfl))) | fail))
  refine Xaf _ _ (Xbl rfl (RV.tmp _) (XaK.mk' [] _ (XuZ _) (XaE.refl _ _) (VwL.refl _ _))) ?_
  exact ⟨[], kk, rfl, rfl, g2, Nat.zero_le _, Nat.zero_le _⟩
 | some g =>
  clear g7
  simp only [Option.map_some]
  simp only [frm, Xu6, Xu7, Xu0, Xu1, Xvd, Xve]
  (repeat' (first | with_reducible (first | refine Xah ?_ | refine Xac ?_ | refine Xan ?_ | refine Xat ?_ | refine Xax ?_ | refine XaW ?_ | refine Xae ?_ | refine Xaa ?_ | refine XaM ?_ | refine XaI ?_ | refine Xag ?_) | (refine Xai _ rfl (fun h => ?_) (fun h => ?_) <;> ((try (simp only [whn] at h)); skip)) | ((first | apply Xad rfl | apply Xa7 _ _ rfl rfl rfl); (case h => ((try (intro (hp : (_ : Bool) = true); ((try simp only [hp]); (try simp only [whn] at hp)))); (first | (apply Xab 0 rfl; (first | exact Xar _ rfl | exact Xao _ rfl)) | (apply Xab 1 rfl; (exact Xbn _ _ _ _ _ rfl rfl rfl rfl)) | (apply Xab 7 rfl; (exact Xbw _ _ _ _ _ _ _ _ _ _ _ _ rfl rfl rfl HEl.out rfl (by first | omega | fail))) | (apply Xab 8 rfl; (exact XaS _ _ _ _ _ _ _ rfl rfl rfl (by kernel_rfl) rfl (by omega))) | (apply Xab 9 rfl; (exact Xbu _ _ _ _ _ _ _ _ _ _ _ _ rfl rfl HEl.out (by first | exact .inl ⟨rfl, rfl⟩ | fail) (by first | exact .inr ⟨_, _, rfl, rfl⟩ | fail) (by omega) (by omega))) | (apply Xab 12 rfl; (exact XbM _ _ 5 _ (full.take n) rfl (by kernel_rfl) (by kernel_rfl) (by kernel_rfl) (Src.bytesOf 1 full rfl rfl g5 g6 g3))) | (apply XaF; (case hs => (intro _ _ h; cases h)); (case hx => rfl); (case hrun => (intro w; simp [wtb, AV.val, go_sem]; (try go_bits); rfl)))))); (case hT => ((try simp (disch := omega) only [wtn, ite_self, Nat.sub_zero, Xu3, Xu0, Xu1, Xu4, Xu8, Nat.reduceAdd, Nat.reduceMul, Nat.reduceSub, ↓reduceIte, Nat.reduceEqDiff]); rfl))) | (refine Xaj rfl ?_; ((first | (refine Xaq 11 rfl ?_; (first | (refine Xam 43 Tryz.f43 [_] _ _ _ rfl rfl Tryz.func43 (by decide) rfl (XuZ _) (VwL.refl _ _) (XbC _ l _ 4 hd (by assumption) (by omega) (by omega)) ?_; rintro _ _ ⟨v4, k4, rfl, rfl, hv4, hk4⟩) | (refine Xam 43 Tryz.f43 [_] _ _ _ rfl rfl Tryz.func43 (by decide) rfl (XuZ _) (VwL.refl _ _) (XbC _ l _ 13 hd (by assumption) (by omega) (by omega)) ?_; rintro _ _ ⟨v13, k13, rfl, rfl, hv13, hk13⟩) | (refine Xam 43 Tryz.f43 [_] _ _ _ rfl rfl Tryz.func43 (by decide) rfl (XuZ _) (VwL.refl _ _) (XbC _ l _ n hd (by assumption) (by omega) (by omega)) ?_; rintro _ _ ⟨i, ki, rfl, rfl, hi, hki⟩))) | (refine Xaq 16 rfl ?_; ((refine Xau _ _ _ _ _ _ _ rfl rfl XaZ.out XaR.out (by first | rfl | fail) (by first | (simp [wlq]; omega) | fail) ?_)))); apply Xak; (case hT => ((try simp (disch := omega) only [wtn, ite_self, Nat.sub_zero, Xu3, Xu0, Xu1, Xu4, Xu8, Nat.reduceAdd, Nat.reduceMul, Nat.reduceSub, ↓reduceIte, Nat.reduceEqDiff]); rfl)); (case hH => ((try simp (disch := omega) only [wtn, ite_self, Nat.sub_zero, Xu3, Xu0, Xu1, Xu4, Xu8, Nat.reduceAdd, Nat.reduceMul, Nat.reduceSub, ↓reduceIte, Nat.reduceEqDiff]); rfl)))) | fail))
  ·have e : spl (u8a full) i [.x (.int .u8 (([123, 125, 44, 61, 47, 34, 92, 35, 97, 48, 32, 10, 45] : List UInt8).getD v13 0).toNat)] = u8a (full.take i ++ [([123, 125, 44, 61, 47, 34, 92, 35, 97, 48, 32, 10, 45] : List UInt8).getD v13 0] ++ full.drop (i + 1)) := Xr6 full i _
   refine ⟨(m - 1, k13, full.take i ++ [([123, 125, 44, 61, 47, 34, 92, 35, 97, 48, 32, 10, 45] : List UInt8).getD v13 0] ++ full.drop (i + 1), n, cap, some g), by simp only; omega, ⟨by simp only; omega, hk13, by simp; omega, by simp only; omega, g5, g6, (fun h => by cases h), by simp only; have g8 := g8'.out; have := XrS full i n (([123, 125, 44, 61, 47, 34, 92, 35, 97, 48, 32, 10, 45] : List UInt8).getD v13 0) hi g3; omega⟩, ?_⟩
   rw [e]
   simp only [Option.map_some]
   exact XaK.mk' [] [.box bd _, .box g _] (XuZ _) (XaE.refl _ _) (by (repeat' (first | exact VwL.nil | (refine VwL.cons ?_ ?_) | exact Vw.refl _ | exact Vw.top _ | (refine Vw.eq ?_; (congr 3; omega)) | fail)))
  ·refine XcJ (B := []) (R := [.box bd _, .box g _]) Xbd [1, 2, 3, 5, 6, 7, 8, 0, 4, 9] [0, 4, 9] [10] none [] 1 (XuZ _) (by decide +kernel) rfl (fun i o h => by cases h) (by decide) ?_
   (repeat' (first | (apply Xcb rfl rfl; (case h => (intro H1; (try simp only [Xu9]); (first | (apply Xab 0 rfl; (exact Xar _ rfl)) | (apply Xab 9 rfl; (exact Xbu _ _ _ _ _ _ _ _ _ _ _ _ rfl rfl HEl.out (by first | exact .inl ⟨rfl, rfl⟩ | exact .inr ⟨_, _, rfl, rfl⟩ | fail) (by first | exact .inl ⟨rfl, rfl⟩ | exact .inr ⟨_, _, rfl, rfl⟩ | fail) (by omega) (by omega))) | (apply XaF; (case hs => (intro _ _ h; cases h)); (case hx => rfl); (case hrun => (intro w; simp [wtb, AV.val, go_sem]; (try go_bits); rfl)))))); (case hT => ((try simp (disch := omega) only [wtn, ite_self, Nat.sub_zero, Xcg, Xu3, Xu0, Xu1, Xu4, Xu8, Nat.reduceAdd, Nat.reduceMul, Nat.reduceSub, ↓reduceIte, Nat.reduceEqDiff]); rfl))) | (apply Xcu rfl rfl; (first | (refine Xaq 13 rfl ?_; (first | (refine XaH _ _ _ _ _ _ _ _ _ _ _ _ _ _ rfl rfl XbD.out (Src.part 2 rfl rfl (by omega) g6 rfl) XaQ.out (by first | (simp; omega) | fail) (XcD _ _ (by first | omega | fail) (by decide)) (fun ad cap => ?_)) | (refine XaH _ _ _ _ _ _ _ _ _ _ _ _ _ _ rfl rfl XbD.out (Src.cut2 (n := n) 2 rfl rfl (by omega) g5 g6 rfl) XaQ.out (by first | (simp; omega) | fail) (XcD _ _ (by first | omega | fail) (by decide)) (fun ad cap => ?_)))) | (refine Xaq 17 rfl ?_; ((refine XaB _ _ _ _ _ _ _ _ rfl XaQ.out (by first | rfl | fail) rfl (by decide) rfl (fun b => ?_))))); refine ⟨_, rfl, ?_⟩; apply Xcv; (case hT => ((try simp (disch := omega) only [wtn, ite_self, Nat.sub_zero, Xcg, Xu3, Xu0, Xu1, Xu4, Xu8, Nat.reduceAdd, Nat.reduceMul, Nat.reduceSub, ↓reduceIte, Nat.reduceEqDiff]); rfl)); (case hH => ((try simp (disch := omega) only [wtn, ite_self, Nat.sub_zero, Xcg, Xu3, Xu0, Xu1, Xu4, Xu8, Nat.reduceAdd, Nat.reduceMul, Nat.reduceSub, ↓reduceIte, Nat.reduceEqDiff]); rfl))) | fail))
   (first | refine XbK ?_ | fail); (apply Xay; (case hT => rfl); (case hH => (simp only [Xu9]; rfl))); (refine Xbr 10 (by decide +kernel) rfl rfl ?_; (first | (apply Xa9; (case h => ((apply Xab 0 rfl; (exact Xao _ rfl)))); (apply Xay; (case hT => ((try simp only [wtn]); rfl)); (case hH => rfl))) | fail)); refine Xa3 (by decide +kernel) ?_
   (repeat (first | refine Xaa ?_ | refine Xag ?_ | fail))
   refine Xlg 0 rfl fun q1 q2 q3 => ?_
   rcases q3 with ⟨rfl, q4, rfl⟩ | ⟨gg, rfl⟩
   ·(repeat' (first | with_reducible (first | refine Xac ?_ | refine Xae ?_ | refine Xaa ?_) | ((apply Xad rfl); (case h => ((first | (apply Xab 0 rfl; (first | exact Xar _ rfl | exact Xao _ rfl)) | (apply XaF; (case hs => (intro _ _ h; cases h)); (case hx => rfl); (case hrun => (intro w; simp [wtb, AV.val, go_sem]; (try go_bits); rfl)))))); (case hT => ((try simp only [wtn]); rfl))) | fail))
    refine ⟨(m - 1, k4, [], 0, 0, none), by simp only; omega, ⟨by simp only; omega, hk4, Nat.le_refl _, by simp only; omega, Nat.le_refl _, Nat.zero_le _, fun _ => ⟨rfl, rfl⟩, by have e : brc [] = 0 := rfl; simp only [List.take_nil, e]; omega⟩, ?_⟩
    simp only [Option.map_none]
    rw [q4]
    exact XaK.mk' [.row none _ _ _ _ _, .box g _] [.box bd _] (Xvf _ (List.Perm.swap _ _ _)) (XaE.refl _ _) (by (repeat' (first | exact VwL.nil | (refine VwL.cons ?_ ?_) | exact Vw.refl _ | exact Vw.top _ | (refine Vw.eq ?_; (congr 3; omega)) | fail)))
   ·(repeat' (first | with_reducible (first | refine Xac ?_ | refine Xae ?_ | refine Xaa ?_) | ((apply Xad rfl); (case h => ((first | (apply Xab 0 rfl; (first | exact Xar _ rfl | exact Xao _ rfl)) | (apply XaF; (case hs => (intro _ _ h; cases h)); (case hx => rfl); (case hrun => (intro w; simp [wtb, AV.val, go_sem]; (try go_bits); rfl)))))); (case hT => ((try simp only [wtn]); rfl))) | fail))
    refine ⟨(m - 1, k4, full.take i ++ (full.drop (i + 1)).take (n - (i + 1)), i + (n - (i + 1)), cap, some gg), by simp only; omega, ⟨by simp only; omega, hk4, by simp; omega, by simp only; omega, q1, q2, (fun h => by cases h), by simp only; have g8 := g8'.out; have := XrV full i n hi; omega⟩, ?_⟩
    simp only [Option.map_some]
    exact XaK.mk' [.box g _] [.box bd _, .row (some ⟨gg, 0, none⟩) _ cap _ _ _] (by (repeat' (first | exact XuZ _ | refine (Xvc (l₁ := [_])).trans (Xvf _ ?_) | refine (Xvc (l₁ := [_, _])).trans (Xvf _ ?_) | fail))) (XaE.cons (VwH.refl _ _) (XaE.cons (VwH.rowboxe (by simp [u8a, u8s])) XaE.nil)) (by (repeat' (first | exact VwL.nil | (refine VwL.cons ?_ ?_) | exact Vw.refl _ | exact Vw.top _ | (refine Vw.eq ?_; (congr 3; omega)) | fail)))
  ·refine XcJ (B := []) (R := [.box bd _, .box g _]) Xbd [1, 2, 3, 5, 6, 7, 8, 14, 15, 16, 0, 4, 9, 10, 11, 12, 13, 17] [0, 4, 9, 11, 12, 13, 17] [18] none [] 1 (XuZ _) (by decide +kernel) rfl (fun i o h => by cases h) (by decide) ?_
   (repeat' (first | (apply Xcb rfl rfl; (case h => (intro H1; (try simp only [Xu9]); (first | (apply Xab 0 rfl; (exact Xar _ rfl)) | (apply Xab 7 rfl; (exact Xbw _ _ _ _ _ _ _ _ _ _ _ _ rfl rfl rfl HEl.out rfl (by first | omega | fail))) | (apply Xab 9 rfl; (exact Xbu _ _ _ _ _ _ _ _ _ _ _ _ rfl rfl HEl.out (by first | exact .inl ⟨rfl, rfl⟩ | exact .inr ⟨_, _, rfl, rfl⟩ | fail) (by first | exact .inl ⟨rfl, rfl⟩ | exact .inr ⟨_, _, rfl, rfl⟩ | fail) (by omega) (by omega))) | (apply XaF; (case hs => (intro _ _ h; cases h)); (case hx => rfl); (case hrun => (intro w; simp [wtb, AV.val, go_sem]; skip; rfl)))))); (case hT => ((try simp (disch := omega) only [wtn, ite_self, Nat.sub_zero, Xu3, Xu0, Xu1, Xu4, Xu8, Nat.reduceAdd, Nat.reduceMul, Nat.reduceSub, ↓reduceIte, Nat.reduceEqDiff]); rfl))) | (apply Xcu rfl rfl; (first | (refine Xaq 11 rfl ?_; ((refine Xam 43 Tryz.f43 [_] _ _ _ rfl rfl Tryz.func43 (by decide) rfl (Xvc (l₁ := [_])) (VwL.refl _ _) (XbC _ l _ n hd (by assumption) (by omega) (by omega)) ?_; rintro _ _ ⟨j, kj, rfl, rfl, hj, hkj⟩))) | (refine Xaq 13 rfl ?_; (first | (refine XaH _ _ _ _ _ _ _ _ _ _ _ _ _ _ rfl rfl XbD.out (Src.part 2 rfl rfl (by omega) g6 rfl) XaQ.out (by first | (simp; omega) | fail) (XcD _ _ (by first | omega | fail) (by decide)) (fun ad cap => ?_)) | (refine XaH _ _ _ _ _ _ _ _ _ _ _ _ _ _ rfl rfl XbD.out (Src.cut2 (n := n) 3 rfl rfl (by omega) g5 g6 rfl) XaQ.out (by first | (simp; omega) | fail) (XcD _ _ (by first | omega | fail) (by decide)) (fun ad cap => ?_)) | (refine XaH _ _ _ _ _ _ _ _ _ _ _ _ _ _ rfl rfl XbD.out (Src.row _ rfl XbD.out) XaQ.out (by first | rfl | fail) (XcD _ _ (by omega) (by decide)) (fun ad cap => ?_)))) | (refine Xaq 17 rfl ?_; ((refine XaB _ _ _ _ _ _ _ _ rfl XaQ.out (by first | rfl | fail) rfl (by decide) rfl (fun b => ?_))))); refine ⟨_, rfl, ?_⟩; apply Xcv; (case hT => ((try simp (disch := omega) only [wtn, ite_self, Nat.sub_zero, Xu3, Xu0, Xu1, Xu4, Xu8, Nat.reduceAdd, Nat.reduceMul, Nat.reduceSub, ↓reduceIte, Nat.reduceEqDiff]); rfl)); (case hH => ((try simp (disch := omega) only [wtn, ite_self, Nat.sub_zero, Xu3, Xu0, Xu1, Xu4, Xu8, Nat.reduceAdd, Nat.reduceMul, Nat.reduceSub, ↓reduceIte, Nat.reduceEqDiff]); rfl))) | (apply Xcu rfl rfl; apply Xa9; (case h => ((apply Xab 6 rfl; (exact XjW 2 _ _ _ _ _ rfl rfl rfl XaO.out (by omega))))); refine ⟨_, rfl, ?_⟩; apply Xcv; (case hT => ((try simp (disch := omega) only [wtn, ite_self, Nat.sub_zero, Xu3, Xu0, Xu1, Xu4, Xu8, Nat.reduceAdd, Nat.reduceMul, Nat.reduceSub, ↓reduceIte, Nat.reduceEqDiff]); rfl)); (case hH => rfl)) | fail))
   (first | refine XbK ?_ | fail); (apply Xay; (case hT => rfl); (case hH => (simp only [Xu9]; rfl))); (refine Xbr 18 (by decide +kernel) rfl rfl ?_; (first | (apply Xa9; (case h => ((apply Xab 0 rfl; (exact Xao _ rfl)))); (apply Xay; (case hT => ((try simp only [wtn]); rfl)); (case hH => rfl))) | fail)); refine Xa3 (by decide +kernel) ?_
   (repeat (first | refine Xaa ?_ | refine Xag ?_ | fail))
   refine Xlg 2 rfl fun q1 q2 q3 => ?_
   rcases q3 with ⟨rfl, q4, rfl⟩ | ⟨gg, rfl⟩
   ·exfalso; omega
   ·(repeat' (first | with_reducible (first | refine Xac ?_ | refine Xae ?_ | refine Xaa ?_) | ((apply Xad rfl); (case h => ((first | (apply Xab 0 rfl; (first | exact Xar _ rfl | exact Xao _ rfl)) | (apply XaF; (case hs => (intro _ _ h; cases h)); (case hx => rfl); (case hrun => (intro w; simp [wtb, AV.val, go_sem]; (try go_bits); rfl)))))); (case hT => ((try simp only [wtn]); rfl))) | fail))
    refine ⟨(m - 1, kj, full.take i ++ [full.getD j 0] ++ (full.drop i).take (n - i), i + 1 + (n - i), cap, some gg), by simp only; omega, ⟨by simp only; omega, hkj, by simp; omega, by simp only; omega, q1, q2, (fun h => by cases h), by simp only; have g8 := g8'.out; have := Xrn full i n (full.getD j 0) (Nat.le_of_lt hi); omega⟩, ?_⟩
    simp only [Option.map_some]
    exact XaK.mk' [.row (some ⟨b, 0, none⟩) _ _ _ _ _, .box g _] [.box bd _, .row (some ⟨gg, 0, none⟩) _ cap _ _ _] (by (repeat' (first | exact XuZ _ | refine Xvf _ ?_ | refine (Xvc (l₁ := [_, _])).trans (Xvf _ ?_) | fail))) (XaE.cons (VwH.refl _ _) (XaE.cons (VwH.rowboxe (show (u8a full).take i ++ [.x (.int .u8 ((full.getD j 0).toNat : Nat))] ++ ((u8a full).drop i).take (n - i) = _ by simp [u8a, u8s])) XaE.nil)) (by (repeat' (first | exact VwL.nil | (refine VwL.cons ?_ ?_) | exact Vw.refl _ | exact Vw.top _ | (refine Vw.eq ?_; (congr 3; omega)) | fail)))
  ·refine ⟨(m - 1, k4, full, i, cap, some g), by simp only; omega, ⟨by simp only; omega, hk4, by simp only; omega, by simp only; omega, by simp only; omega, g6, (fun h => by cases h), by simp only; have g8 := g8'.out; have := XrK full (Nat.le_of_lt hi); omega⟩, ?_⟩
   simp only [Option.map_some]
   exact XaK.mk' [] [.box bd _, .box g _] (XuZ _) (XaE.refl _ _) (by (repeat' (first | exact VwL.nil | (refine VwL.cons ?_ ?_) | exact Vw.refl _ | exact Vw.top _ | (refine Vw.eq ?_; (congr 3; omega)) | fail)))
  ·refine Xaf _ _ (Xbl rfl (RV.tmp _) (XaK.mk' [.box g _] [.box bd _] (List.Perm.swap _ _ _) (XaE.refl _ _) (VwL.refl _ _))) ?_
   have g8 := g8'.out
   refine ⟨full.take n, kk, rfl, rfl, g2, ?_, by omega⟩
   rw [List.length_take]; omega
theorem XsN (bd : Nat) (l : List Int) (k : Nat) (s : List UInt8) (hd : DK l) (hk : k ≤ l.length) (hs : s.length ≤ 70000) : Xa8 Tryz.prog 22 [.box bd [.sq l.length (ia l), .x (.int .i64 k)]] [.x (.pointer (some ⟨bd, 0, none⟩)), .x (.string (bs s))] (fun r H' => ∃ (s' : List UInt8) (k' : Nat), r = .x (.string (bs s')) ∧ H' = [.box bd [.sq l.length (ia l), .x (.int .i64 k')]] ∧ k' ≤ l.length ∧ s'.length ≤ s.length + 2) :=
 (Xsg bd l k s hd hk hs).mono fun r H' ⟨s', k', h1, h2, h3, h4, _⟩ => ⟨s', k', h1, h2, h3, h4⟩
end Go.Proofs.YtdpobjakdplljaaGreatDoor
