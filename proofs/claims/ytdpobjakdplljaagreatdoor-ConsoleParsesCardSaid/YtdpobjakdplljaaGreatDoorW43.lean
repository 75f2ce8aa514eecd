import Derived.Test.YtdpobjakdplljaaGreatDoorW34
import Derived.Test.YtdpobjakdplljaaGreatDoorW42
import Derived.Test.YtdpobjakdplljaaGreatDoorW0
import Derived.ProofKit
import Derived.OpenShut
import Derived.ShutString
import Derived.ChangeOld
import Derived.Lib.SmallJoins
import Derived.SizedLaws
import Derived.Test.YtdpobjakdplljaaGreatDoorW17
import Derived.Test.YtdpobjakdplljaaGreatDoorW6
import Derived.Test.YtdpobjakdplljaaGreatDoorRows
import Derived.Test.YtdpobjakdplljaaGreatDoorW8
import Derived.ChangeSame
import Derived.ChangeVars
import Derived.JoinedOf
import Derived.LaidLaws
import Derived.LaidHandle
import Derived.Stop.Joined
import Derived.Stop.LaidErr
import Derived.Deep.Strs
import Derived.Lay
import Derived.RowKit
/- The laws of scripts: the examples; ConsoleParses. -/
set_option linter.unusedSimpArgs false
set_option linter.unusedVariables false
namespace Go.Proofs.YtdpobjakdplljaaGreatDoor
open Go.RowKit
def e5 : EF := ⟨4, [], false, 0, [], 5, 0, 0⟩
def t5 : List UInt8 := [116, 105, 99, 107, 32, 53]
def tf : List UInt8 := [116, 105, 99, 107, 32, 102, 105, 118, 101]
theorem XrR : XfH e5 := ⟨3, by decide, rfl, (fun f hf => by obtain rfl : f = 84 := List.mem_singleton.1 hf; exact ⟨by decide, by decide⟩), rfl⟩
theorem XnU : Xeb e5 = t5 := by
 have h : XbT 5 = [53] := XfZ 5 (by decide)
 show [116, 105, 99, 107] ++ (32 :: XbT 5 ++ []) = t5
 rw [h]; rfl
theorem Xqu : XcP t5 = ([e5], 1, 0) := by
 obtain ⟨ts, q1, q2, q3⟩ := XrR.lex (by rw [XnU]; decide)
 rw [XnU] at q1
 show cGo [t5] 0 [] = _
 rw [cGo, q1]
 simp only [if_neg q2, q3]
 rfl
theorem XqN : XcP tf = ([], 0, 320) := by
 have hr : Xa1 Brk ([116, 105, 99, 107] ++ 32 :: [102, 105, 118, 101]) ([(1, [116, 105, 99, 107])] ++ [(1, [102, 105, 118, 101])]) := (Xa1.word (XbI (by decide))).brk (by decide) (.bl 32 (by unfold Xc5; decide) (Xa1.word (XbI (by decide))))
 obtain ⟨ts, x, q1, q2⟩ := XqU hr (by decide) (by decide)
 show cGo [tf] 0 [] = _
 have q1' : lex tf = .ok (ts ++ [x]) := q1
 have hl : ts.length = 2 := by have := congrArg List.length q2; simpa [kts] using this
 have he : Xcd ts = none := by
  match ts, hl with
  | [a, b], _ =>
   simp only [kts, Xu4, Xu8, Xva, Xu9, List.cons.injEq, Prod.mk.injEq, and_true] at q2
   obtain ⟨⟨a1, a2⟩, b1, b2⟩ := q2
   rw [Xea (k := 3) (by simp) (by exact a1) (by decide) (by rw [show XbF.getD 3 [] = [116, 105, 99, 107] from rfl]; exact a2.symm), if_neg (by simp [Xa5])]
   show (XeP (ev0 4) 84 b).bind _ = none
   have : XeP (ev0 4) 84 b = none := by
    unfold XeP
    rw [if_neg (by decide), if_neg (by decide), if_neg (by decide), if_pos (by rw [b1]; decide)]
   rw [this]; rfl
 rw [cGo, q1']
 simp only [Xvb, Xu2, Xu5, hl, List.dropLast_concat, he]
 rfl
theorem XlQ : Xa8 Tryz.prog 10 [] [.x (.string (bs t5))] (fun r H' => r = .tup [.sq 1 [.x (.int .i64 4), .x (.string (bs [])), .x (.bool false), .x (.int .i64 0), .sq 0 [], .x (.int .u64 5), .x (.int .i64 0), .x (.int .i64 0)], .x (.int .i64 1), .x (.int .i64 0)] ∧ H' = []) := by
 have h := Xj5 t5 (by decide)
 rw [Xqu] at h
 exact h
theorem Xmf : Xa8 Tryz.prog 10 [] [.x (.string (bs tf))] (fun r H' => r = .tup [.sq 0 [], .x (.int .i64 0), .x (.int .i64 320)] ∧ H' = []) := by
 have h := Xj5 tf (by decide)
 rw [XqN] at h
 exact h
set_option maxRecDepth 100000 in
set_option maxHeartbeats 8000000 in
theorem Xqm : Xa8 Tryz.prog 8 [] [] (fun r H' => r = .x (.bool true) ∧ H' = []) := by
 refine XaG Tryz.func8 rfl ?_
 simp only [Tryz.ntmps8, Xu5, Xu6, Xu7, Xu9, Nat.reduceSub]
 (repeat' (first | with_reducible (first | refine Xah ?_ | refine Xac ?_ | refine Xat ?_ | refine Xae ?_ | refine Xaa ?_) | ((first | apply Xad rfl | apply Xa7 _ _ rfl rfl rfl); (case h => ((try (intro (hp : (_ : Bool) = true); ((try simp only [] at hp); skip; skip))); (first | (apply Xab 0 rfl; (first | exact Xar _ rfl | exact Xao _ rfl)) | (apply Xab 1 rfl; (exact XbG _ _ _ rfl rfl)) | (apply Xab 2 rfl; (exact XaL _ _ _ _ rfl rfl rfl)) | (apply Xab 3 rfl; (exact XaX _ _ _ _ _ _ HEl.out rfl rfl)) | (apply Xab 5 rfl; (exact Xbe _ _ _ _ _ rfl rfl Xa6.out)) | (apply Xab 6 rfl; (exact XaD _ _ _ _ _ rfl rfl XaO.out (by first | exact XuY rfl | fail) (by first | exact XuY rfl | fail))) | (apply Xab 7 rfl; (exact XaC _ _ _ _ _ _ _ _ 0 _ rfl rfl rfl HEl.out rfl (by omega) (by decide))) | (apply Xab 11 rfl; (first | exact Xaz 10 Tryz.f10 _ _ rfl rfl Tryz.func10 (by decide) rfl (VwL.refl _ _) (XlQ) | exact Xaz 10 Tryz.f10 _ _ rfl rfl Tryz.func10 (by decide) rfl (VwL.refl _ _) (Xmf))) | (apply XaF; (case hs => (intro _ _ h; cases h)); (case hx => rfl); (case hrun => (intro w; simp [wtb, AV.val, go_sem]; skip; rfl)))))); (case hT => ((try simp only [wtn, Nat.reduceMul]); rfl))) | fail))
 refine Xaf _ _ (Xbl rfl (RV.tmp _) (XaK.mk' [] _ (XuZ _) (XaE.refl _ _) (VwL.refl _ _))) ?_
 exact ⟨rfl, rfl⟩
def Xmz (s s2 raw : List UInt8) : List (List UInt8) := [s, raw, s2 ++ [10] ++ raw]
theorem Xqp (s s2 raw : List UInt8) (h : s.length ≤ 65560) (h2 : s2.length ≤ 65560) (hr : raw.length ≤ 300) : ∀ x ∈ Xmz s s2 raw, x.length ≤ 70000 := by
 intro x hx
 simp only [Xmz, List.mem_cons, List.mem_nil_iff, or_false] at hx
 rcases hx with rfl | rfl | rfl <;> (try rw [Xvb, Xvb]) <;> (try simp only [Xu2, Xu5]) <;> omega
theorem Xkt : ∀ (xs : List (List UInt8)) (n : Nat) (out : List EF), out.length ≤ 1000 → (cGo xs n out).1.length ≤ 1000
 | [], n, out, h => by rw [cGo]; exact h
 | x :: r, n, out, h => by
  rw [cGo]
  cases lex x with
  | error f => simp
  | ok ts =>
   simp only
   split
   ·exact Xkt r _ _ h
   ·cases Xcd ts.dropLast with
    | none => simp
    | some e =>
     simp only
     split
     ·simp
     ·exact Xkt r _ _ (by simp; omega)
theorem XmA (s : List UInt8) : (XcP s).1.length ≤ 1000 := by
 unfold XcP
 split
 ·simp
 ·exact Xkt _ _ _ (by simp)
set_option maxRecDepth 100000 in
set_option maxHeartbeats 8000000 in
theorem Xpk (l : List Int) (raw : List UInt8) (hd : DK l) : Xa8 Tryz.prog 3 [] [.sq l.length (ia l), .x (.string (bs raw))] (fun r H' => r = .x (.bool true) ∧ H' = []) := by
 refine XaG Tryz.func3 rfl ?_
 simp only [Tryz.ntmps3, Xu2, Xu5, Xu6, Xu7, Xva, Xu9, Nat.reduceAdd, Nat.reduceSub]
 (repeat' (first | with_reducible (first | refine Xah ?_ | refine Xac ?_ | refine Xan ?_ | refine Xat ?_ | refine Xax ?_ | refine Xae ?_ | refine Xaa ?_ | refine Xaw ?_) | (refine Xai _ rfl (fun h => ?_) (fun h => ?_) <;> first | (exact absurd h (by decide)) | ((try (simp only [whn] at h)); skip)) | ((apply Xad rfl); (case h => ((first | (apply Xab 0 rfl; (first | exact Xar _ rfl | exact Xao _ rfl)) | (apply Xab 3 rfl; (exact XaX _ _ _ _ _ _ HEl.out rfl rfl)) | (apply Xab 11 rfl; (exact Xaz 8 Tryz.f8 _ _ rfl rfl Tryz.func8 (by decide) rfl (VwL.refl _ _) (Xqm))) | (apply Xab 12 rfl; (exact Xbq _ _ _ _ rfl rfl rfl (by simp; omega))) | (apply Xab 17 rfl; (exact XbN _ _ _ _ _ _ rfl XaQ.out rfl (by first | rfl | fail) rfl rfl (by decide))) | (apply XaF; (case hs => (intro _ _ h; cases h)); (case hx => rfl); (case hrun => (intro w; simp [wtb, AV.val, go_sem]; skip; rfl)))))); (case hT => ((try simp only [wtn]); rfl))) | (refine Xaj rfl ?_; (((refine Xaq 11 rfl ?_; ((refine Xam 9 Tryz.f9 ([]) _ _ _ rfl rfl Tryz.func9 (by decide) rfl (XuZ _) (VwL.refl _ _) (XtN l hd) ?_; rintro _ _ ⟨s, rfl, rfl, hs⟩)))); apply Xak; (case hT => ((try simp only [wtn]); rfl)); (case hH => ((try simp only [wtn]); rfl)))) | fail))
 ·refine Xaf _ _ (Xbl rfl (RV.tmp _) (XaK.mk' [] _ (XuZ _) (XaE.refl _ _) (VwL.refl _ _))) ?_
  exact ⟨rfl, rfl⟩
 rename_i s1 hs1
 have hL := Lib.hid (Xqp s1 s raw hs1 hs (by omega))
 clear hs hs1 h
 refine XaT (S := Nat) (fun q => frm 59 [(26, .sq 3 (sa (Xmz s1 s raw))), (27, .x (.int .i64 3)), (28, .x (.int .i64 q))]) (fun q => []) (fun q => q ≤ 3) (fun q => 3 - q) 0 ?a (Nat.zero_le _) fun q hq => ?_
 case a => exact (XaK.mk' [] _ (XuZ _) (XaE.refl _ _) (by (repeat' (first | exact VwL.nil | (refine VwL.cons ?_ ?_) | exact Vw.refl _ | exact Vw.top _ | fail))))
 simp only [frm, Xu6, Xu7, Xu0, Xu1, Xvd, Xve]
 by_cases hk : q < (Xmz s1 s raw).length
 ·have hx := hL.out _ (List.getElem_mem hk)
  have h1 := Xj5 (Xmz s1 s raw)[q] (by omega)
  have h2 := Xor (Xmz s1 s raw)[q] (by omega)
  have h4 := XmA (Xmz s1 s raw)[q]
  have h3 := XoZ (XcP (Xmz s1 s raw)[q]).1 (XcP (Xmz s1 s raw)[q]).1 (by omega)
  rw [Xod] at h3
  have h7 : q < 3 := hk
  have hdr := Xds (Xmz s1 s raw) q hk
  unfold XtR at h1 h2
  have hln : (sa (Xmz s1 s raw)).length = 3 := by simp [Xmz]
  generalize (Xmz s1 s raw)[q] = x at *
  generalize XcP x = p at *
  (repeat' (first | with_reducible (first | refine Xah ?_ | refine Xac ?_ | refine Xan ?_ | refine Xax ?_ | refine Xae ?_ | refine Xaa ?_ | refine Xag ?_) | (refine Xai _ rfl (fun h => ?_) (fun h => ?_) <;> first | (exact absurd h (by decide)) | ((try (simp only [whn] at h)); first | (exfalso; omega; done) | skip)) | ((first | apply Xad rfl | apply Xa7 _ _ rfl rfl rfl); (case h => ((try (intro (hp : (_ : Bool) = true); ((try simp only [Bool.not_eq_true'] at hp); skip; skip))); (first | (apply Xab 0 rfl; (first | exact Xar _ rfl | exact Xao _ rfl)) | (apply Xab 1 rfl; (exact XbE _ _ _ rfl rfl)) | (apply Xab 2 rfl; (exact XaL _ _ _ _ rfl rfl rfl)) | (apply Xab 6 rfl; (exact XaD _ _ _ _ _ rfl rfl XaO.out (by first | exact XuY rfl | fail) (by first | exact XuY rfl | fail))) | (apply Xab 7 rfl; (exact XaC _ _ _ _ _ _ _ _ _ _ rfl rfl rfl HEl.out rfl (by first | omega | fail) (by simp; first | omega | fail))) | (apply Xab 11 rfl; (first | exact Xaz 10 Tryz.f10 _ _ rfl rfl Tryz.func10 (by decide) rfl (VwL.refl _ _) (h1) | exact Xaz 11 Tryz.f11 _ _ rfl rfl Tryz.func11 (by decide) rfl (VwL.refl _ _) (h2) | exact Xaz 12 Tryz.f12 _ _ rfl rfl Tryz.func12 (by decide) rfl (VwL.refl _ _) (h3))) | (apply XaF; (case hs => (intro _ _ h; cases h)); (case hx => rfl); (case hrun => (intro w; simp [wtb, AV.val, go_sem]; (try go_bits); rfl)))))); (case hT => ((try simp (disch := omega) only [wtn, hdr, Xu3, Xu0, Xu1, Xu4, Xu8, Nat.reduceAdd, Nat.reduceMul, Nat.reduceSub, ↓reduceIte, Nat.reduceEqDiff]); rfl))) | fail))
  exact ⟨q + 1, by omega, by omega, (XaK.mk' [] _ (XuZ _) (XaE.refl _ _) (by (repeat' (first | exact VwL.nil | (refine VwL.cons ?_ ?_) | exact Vw.refl _ | exact Vw.top _ | fail))))⟩
 ·have h7 : ¬ q < 3 := hk
  (repeat' (first | with_reducible (first | refine Xah ?_ | refine Xac ?_ | refine Xat ?_ | refine XaW ?_ | refine Xae ?_ | refine Xaa ?_ | refine XaM ?_ | refine XaI ?_) | (refine Xai _ rfl (fun h => ?_) (fun h => ?_) <;> ((try (simp only [whn] at h)); first | (exfalso; omega; done) | skip)) | ((apply Xad rfl); (case h => ((first | (apply Xab 0 rfl; (exact Xao _ rfl)) | (apply XaF; (case hs => (intro _ _ h; cases h)); (case hx => rfl); (case hrun => (intro w; simp [wtb, AV.val, go_sem]; skip; rfl)))))); (case hT => ((try simp only [wtn]); rfl))) | fail))
  refine Xaf _ _ (Xbl rfl (RV.tmp _) (XaK.mk' [] _ (XuZ _) (XaE.refl _ _) (VwL.refl _ _))) ?_
  exact ⟨rfl, rfl⟩
open Go.ChangeShapes Go.WideShapes Go.ChangeAt Go.RowKit Go.Joins
def Is (lo : Nat) (w : World) (v : Value) (l : List Int) : Prop := Sl lo w v l.length (l.map (Value.int .i64))
theorem Is.mono {lo : Nat} {w w' : World} {v : Value} {l : List Int} (h : Is lo w v l) (hb : Ext w w') : Is lo w' v l := Sl.mono h hb
theorem Is.shape {lo : Nat} {w : World} {v : Value} {l : List Int} (h : Is lo w v l) : ∃ ad cap, v = .slice ad l.length cap ∧ l.length ≤ cap := Sl.shape h
def XuJ (l : List Int) : Prop := ∀ x ∈ l, -9223372036854775808 ≤ x ∧ x ≤ 9223372036854775807
section
variable {H : Type} {enc : TypeId × Value → H} {P : Program} {W : World} {fuel : Nat} {t e : TypeId} {v : Value} {x : DataW H × List MemPlace}
theorem Xp8 {k : IntKind} (ht : P.underlying t = some (.slice e)) (he : P.underlying e = some (.int k)) (hc : P.cellsOf e = 1)
  (h : DataW.trod enc P W 0 (fun _ => true) true fuel t [v] = some x) (hsz : ∀ n ∈ x.1.weights P t, n ≤ reachBytes) :
  ∃ zs : List Int, Sl 0 W v zs.length (zs.map (Value.int k)) ∧ (∀ n ∈ zs, (Lit.int k n).wf = true) ∧ zs.length * P.bytesOf e ≤ reachBytes := by
 rcases open_ints ht he hc h with ⟨hcs, hx⟩ | ⟨a, len, cap, zs, hcs, _, hl, hm, hz, hx, hcell, hwz⟩
 ·simp at hcs
  subst hcs
  exact ⟨[], Sl.nil _ _, by simp, by simp⟩
 ·simp at hcs
  subst hcs
  have hz' : zs.length = cap := by simpa using hz
  have hlen : (zs.take len).length = len := by simp; omega
  refine ⟨zs.take len, ?_, fun n hn => hwz n (List.mem_of_mem_take hn), ?_⟩
  ·refine ⟨some a, cap, by rw [hlen], by rw [hlen]; exact hl, hm, (by intro h; cases h), fun _ _ => Nat.zero_le _, fun j u hj => ⟨a, rfl, ?_⟩⟩
   rw [List.getElem?_map, List.getElem?_take] at hj
   split at hj
   ·rename_i hjl
    have hjz : j < zs.length := by omega
    rw [hcell j hjz]
    simp [List.getElem?_eq_getElem hjz] at hj
    simp [← hj, List.getD, List.getElem?_eq_getElem hjz]
   ·simp at hj
  ·have := hsz ((lits (H := H) k (zs.take len)).length * P.bytesOf e + (lits (H := H) k (zs.drop len)).length * P.bytesOf e) (by rw [hx]; simp [DataW.weights, ht, Nat.add_mul])
   have h2 : (lits (H := H) k (zs.take len)).length = (zs.take len).length := by simp [lits]
   rw [h2] at this
   omega
theorem Xsa (ht : P.underlying t = some (.slice e)) (he : P.underlying e = some (.int .i64)) (hc : P.cellsOf e = 1) (hb : P.bytesOf e = 8)
  (h : DataW.trod enc P W 0 (fun _ => true) true fuel t [v] = some x) (hsz : ∀ n ∈ x.1.weights P t, n ≤ reachBytes) :
  ∃ l : List Int, Is 0 W v l ∧ XuJ l ∧ l.length ≤ 140737488355328 := by
 obtain ⟨zs, h1, h2, h3⟩ := Xp8 ht he hc h hsz
 refine ⟨zs, h1, fun n hn => ?_, ?_⟩
 ·have hw := h2 n hn
  simp [Lit.wf, IntKind.min, IntKind.max, IntKind.signed, IntKind.bits] at hw
  omega
 ·rw [hb] at h3
  have := reachBytes_lt
  omega
end
theorem Xhl {H : Type} {P : Program} {ts : List TypeId} {ds : List (DataW H)} (h : (DataW.weightsEach P ts ds).all (· ≤ reachBytes) = true) {j : Nat} {t : TypeId} {d : DataW H} (ht : ts[j]? = some t) (hd : ds[j]? = some d) : ∀ n ∈ d.weights P t, n ≤ reachBytes := fun n hn => by
 have := List.all_eq_true.1 h _ (DataW.weights_mem_each ht hd n hn)
 simpa using this
open Go.RowKit
theorem Sl.den {W : World} {v : Value} {n : Nat} {xs : List Value} (h : Sl 0 W v n xs) (h1 : ∀ u ∈ xs, u.oneCell' = true) : Den (fun _ => False) W (.sq n (xs.map AV.x)) v := by
 obtain ⟨ad, cap, rfl, h1', h2, h3, h4⟩ := Sl.split h
 rw [Den]
 refine ⟨ad, cap, xs, rfl, h1', h2, h3, ?_, Xa2.exact⟩
 rcases h4 with h4 | ⟨b, o, rfl, _, hc⟩
 ·exact .inl h4
 ·exact .inr ⟨b, o, rfl, fun h => h, fun j u hj => ⟨hc j u hj, h1 u (List.mem_of_getElem? hj)⟩⟩
theorem Is.den {W : World} {v : Value} {l : List Int} (h : Is 0 W v l) : Den (fun _ => False) W (.sq l.length (ia l)) v := by
 have := Sl.den h (fun u hu => by obtain ⟨n, -, rfl⟩ := List.mem_map.1 hu; rfl)
 have e : ia l = (l.map (Value.int .i64)).map AV.x := by simp [ia]
 rw [e]; exact this
theorem Bs.den {W : World} {v : Value} {l : List UInt8} (h : Bs 0 W v l) : Den (fun _ => False) W (.sq l.length (u8a l)) v :=
 Sl.den h (fun u hu => by obtain ⟨n, -, rfl⟩ := List.mem_map.1 hu; rfl)
open Go.RowKit Go Go.ChangeShapes Go.Deep
abbrev LL : List (String × DataW Unit) := Rows.consoleParsesRow.laid
theorem Xrv : Tryz.prog.globalNamed "errors.errorType" = some 1 := by kernel_rfl
theorem XrG : (Tryz.prog.cutTypes.find? (·.1 == "internal/reflectlite.rtype")).map (·.2) = some 196 := by kernel_rfl
theorem XnL : Tryz.prog.types.size = 297 := by kernel_rfl
theorem Xpx : ((List.range 297).filter fun t => Tryz.prog.rowNamed t [101, 114, 114, 111, 114]) = [81] := by kernel_rfl
theorem Xh3 {w : World} {base : Nat} {sp : Nat → Bool} {held : Bool} {fuel : Nat} {t : TypeId} {ms : Array (String × TypeId)} {cs : List Value} {nm : String} {d : DataW Unit} {p : List MemPlace} (hi : Tryz.prog.underlying t = some (.interface ms))
  (h : DataW.trod (fun _ => ()) Tryz.prog w base sp held fuel t cs = some (.iface nm d, p)) : ∃ u v, cs = [.iface u v] := by
 cases fuel with
 | zero => simp [DataW.trod] at h
 | succ n =>
  unfold DataW.trod at h
  rw [hi] at h
  split at h <;> simp_all
theorem Xfb {W : World} {n nm : String} {d : DataW Unit} {r : List (String × DataW Unit)} {g : Nat} {ti : TypeId} {ms : Array (String × TypeId)} (h : laidMet Tryz.prog ((n, .iface nm d) :: r) W)
  (hg : Tryz.prog.globalNamed n = some g) (ht : (Tryz.prog.globals[g]?).map (·.type) = some ti) (hi : Tryz.prog.underlying ti = some (.interface ms)) : ∃ u v, W.cell? ⟨g, 0, none⟩ = some (.iface u v) := by
 obtain ⟨ps, ⟨g0, t0, cs0, f0, p0, q0, hg0, ht0, hv0, hd0, -⟩, -⟩ := h
 obtain rfl := Option.some.inj (hg.symm.trans hg0)
 obtain rfl := Option.some.inj (ht.symm.trans ht0)
 obtain ⟨l0⟩ := cs0
 obtain ⟨u, v, hcs⟩ := Xh3 hi hd0
 simp only at hcs
 subst hcs
 exact ⟨u, v, by simpa using World.var?_cell hg0 hv0 0⟩
/-! ### The table of forms -/
set_option maxRecDepth 100000 in
theorem Xmc {w : World} {base : Nat} {sp : Nat → Bool} {held : Bool} {fuel : Nat} {c : List Value} {b : DataW Unit × List MemPlace} {wd fs : List UInt8} {k : Int} (h : DataW.trod (fun _ => ()) Tryz.prog w base sp held fuel 76 c = some b)
  (hb : b.1 = .agg [.lit (.string wd), .lit (.int .i64 k), .lit (.string fs)]) : c = [.string (bs wd), .int .i64 k, .string (bs fs)] := by
 obtain ⟨y0, y1, y2, n, rfl, hl, h0, h1, h2⟩ := trod_struct3 Tryz.underlying76 h
 obtain ⟨s0, e0, rfl, -⟩ := DataW.trod_string Tryz.underlying9 h0
 obtain ⟨n1, e1, rfl, -⟩ := DataW.trod_int Tryz.underlying3 h1
 obtain ⟨s2, e2, rfl, -⟩ := DataW.trod_string Tryz.underlying9 h2
 have hl3 : c.length = 3 := hl.trans (by kernel_rfl)
 simp only [DataW.agg.injEq, List.cons.injEq, DataW.lit.injEq, Lit.string.injEq, Lit.int.injEq, true_and, and_true] at hb
 obtain ⟨b0, b1, b2⟩ := hb
 have c9 : Tryz.prog.cellsOf 9 = 1 := by kernel_rfl
 have c3 : Tryz.prog.cellsOf 3 = 1 := by kernel_rfl
 match c, hl3 with
 | [x, y, z], _ =>
  have e0' : [x] = [Value.string s0] := by rw [← e0]; show _ = ([x, y, z].drop 0).take (Tryz.prog.cellsOf 9); rw [c9]; rfl
  have e1' : [y] = [Value.int .i64 n1] := by rw [← e1]; show _ = ([x, y, z].drop 1).take (Tryz.prog.cellsOf 3); rw [c3]; rfl
  have e2' : [z] = [Value.string s2] := by rw [← e2]; show _ = ([x, y, z].drop 2).take (Tryz.prog.cellsOf 9); rw [c9]; rfl
  cases e0'
  cases e1'
  cases e2'
  subst b1
  have q : ∀ (s : ByteArray) (l : List UInt8), s.data.toList = l → s = bs l := fun s l h => by subst h; rfl
  rw [q _ _ b0, q _ _ b2]
theorem Xq0 {α : Type} (c : Nat) (f : Nat → List α) : ∀ (n : Nat) (cs : List α), cs.length = n * c → (∀ i, i < n → (cs.drop (i * c)).take c = f i) → cs = (List.range n).flatMap f
 | 0, cs, h, _ => by simpa using h
 | n + 1, cs, h, hf => by
  rw [Nat.succ_mul] at h
  have ih := Xq0 c f n (cs.take (n * c)) (by rw [List.length_take]; omega) fun i hi => by
   rw [← hf i (by omega), List.drop_take, List.take_take]
   have : i * c + c ≤ n * c := by rw [← Nat.succ_mul]; exact Nat.mul_le_mul_right _ hi
   rw [Nat.min_eq_left (by omega)]
  have hl := hf n (by omega)
  rw [List.take_of_length_le (by rw [List.length_drop]; omega)] at hl
  rw [List.range_succ, List.flatMap_append, ← ih, List.flatMap_cons, List.flatMap_nil, List.append_nil, ← hl, List.take_append_drop]
def Xpq (i : Nat) : List UInt8 × Int × List UInt8 := Xn5.getD i ([], 0, [])
set_option maxRecDepth 100000 in
theorem XhR {W : World} {r : List (String × DataW Unit)} (h : laidMet Tryz.prog (("jobmux/console.forms", Rows.laid_jobmux_console_forms) :: r) W) : W.var? Tryz.prog "jobmux/console.forms" = some XbJ.toArray := by
 obtain ⟨ps, ⟨g0, t0, cs, fuel, p0, q0, hg0, ht0, hv0, hd0, -⟩, -⟩ := h
 obtain rfl := Option.some.inj ((show Tryz.prog.globalNamed "jobmux/console.forms" = some 0 by kernel_rfl).symm.trans hg0)
 obtain rfl := Option.some.inj ((show (Tryz.prog.globals[0]?).map (·.type) = some 129 by kernel_rfl).symm.trans ht0)
 rw [hv0]
 obtain ⟨l⟩ := cs
 simp only at hd0
 have hl : l = XbJ := by
  cases fuel with
  | zero => simp [DataW.trod] at hd0
  | succ n =>
   unfold DataW.trod at hd0
   rw [Tryz.underlying129] at hd0
   simp only at hd0
   split at hd0
   ·rename_i hlen
    obtain ⟨xs, hm, hx⟩ := Option.map_eq_some_iff.1 hd0
    have hxs : xs.map (·.1) = Xn5.map fun f => (.agg [.lit (.string f.1), .lit (.int .i64 f.2.1), .lit (.string f.2.2)] : DataW Unit) := by
     have := congrArg Prod.fst hx
     exact DataW.agg.inj this
    have hce : Tryz.prog.cellsOf 76 = 3 := by kernel_rfl
    have hlen' : l.length = 14 * 3 := hlen.trans (by kernel_rfl)
    have hc := Xq0 3 (fun i => [Value.string (bs (Xpq i).1), .int .i64 (Xpq i).2.1, .string (bs (Xpq i).2.2)]) 14 l hlen' fun i hi => by
     obtain ⟨b, hb, hf⟩ := Lib.mapM_at hm i i (by rw [List.getElem?_range hi])
     rw [hce] at hf
     refine Xmc hf ?_
     have h1 := congrArg (fun z => z[i]?) hxs
     simp only [List.getElem?_map, hb, Option.map_some] at h1
     have hi' : i < Xn5.length := hi
     rw [List.getElem?_eq_getElem hi', Option.map_some] at h1
     have h2 := Option.some.inj h1
     rw [h2]
     simp only [Xpq, List.getD_eq_getElem?_getD, List.getElem?_eq_getElem hi', Option.getD_some]
    rw [hc]
    rfl
   ·cases hd0
 rw [hl]
theorem Xl6 {W : World} (h : laidMetH Tryz.prog LL W) (hS : W.ShapedOpen Tryz.prog) : Gw W := by
 have hf : (LL.filter fun x => x.2.handleName?.isSome) = [("errors.errorType", Rows.laid_errors_errorType)] := by kernel_rfl
 have hn : (LL.filter fun x => x.2.handleName?.isNone) = [("math/bits.deBruijn32tab", Rows.laid_math_bits_deBruijn32tab), ("math/bits.deBruijn64tab", Rows.laid_math_bits_deBruijn64tab), ("internal/strconv.uint64pow10", Rows.laid_internal_strconv_uint64pow10), ("strconv.ErrRange", Rows.laid_strconv_ErrRange), ("strconv.ErrSyntax", Rows.laid_strconv_ErrSyntax), ("jobmux/console.forms", Rows.laid_jobmux_console_forms)] := by kernel_rfl
 unfold laidMetH at h
 rw [hf] at h
 obtain ⟨h1, h2⟩ := (show laidMet Tryz.prog (LL.filter fun x => x.2.handleName?.isNone) W ∧ handlesMet Tryz.prog [("errors.errorType", Rows.laid_errors_errorType)] W from h)
 rw [hn] at h1
 obtain ⟨name, u, ty, e1, e2, e3, e4, e5⟩ := h2 _ (List.mem_singleton.2 rfl)
 have en : name = [101, 114, 114, 111, 114] := (Option.some.inj e1).symm
 subst en
 obtain rfl := Option.some.inj (XrG.symm.trans e2)
 have hm : ty ∈ (List.range 297).filter fun t => Tryz.prog.rowNamed t [101, 114, 114, 111, 114] := List.mem_filter.2 ⟨List.mem_range.2 (by rw [← XnL]; exact e3), e4⟩
 rw [Xpx] at hm
 obtain rfl := List.mem_singleton.1 hm
 have hh : typeHandle Tryz.prog 81 = .pointer (some ⟨10, 81, none⟩) := by kernel_rfl
 rw [hh] at e5
 have t1 := h1.tail
 have t2 := t1.tail
 have t3 := t2.tail
 have t4 := t3.tail
 have t5 := t4.tail
 obtain ⟨t, v, hr⟩ := Xfb (g := 5) (ti := 81) t3 (by kernel_rfl) (by kernel_rfl) Tryz.underlying81
 obtain ⟨t', v', hs⟩ := Xfb (g := 4) (ti := 81) t4 (by kernel_rfl) (by kernel_rfl) Tryz.underlying81
 refine ⟨by simpa using World.var?_cell Xrv e5 0, ⟨_, _, hs⟩, ⟨_, _, hr⟩, ?_, XhR t5, ?_⟩
 ·exact Lib.tabIs_of_head (g := 3) (t := 236) (e := 38) (n := 20) (by kernel_rfl) (by kernel_rfl) (by kernel_rfl) (by kernel_rfl) (by kernel_rfl) (by kernel_rfl) t2
 ·have h0 : (((begin Tryz.prog (fun _ _ => 0) default).world.heap[gN - 1]?).bind Obj.row?).isSome = true := by kernel_rfl
  obtain ⟨⟨z, t⟩, hz⟩ := Option.isSome_iff_exists.1 h0
  obtain ⟨cs, hh, -⟩ := hS.1 (gN - 1) z t (of_decide_eq_true (by kernel_rfl)) hz
  have h1 := (Array.getElem?_eq_some_iff.1 hh).1
  have h2 : 1 ≤ gN := by decide
  omega
noncomputable def laidWorld (os : Os) : World :=
 let w0 := World.holding Tryz.prog os ⟨#[], #[], []⟩
 { w0 with heap := w0.heap.modify 1 fun
   | .cells _ t frozen => .cells #[.iface 196 (.agg #[.pointer (some ⟨10, 81, none⟩)])] t frozen
   | o => o }
noncomputable def laidWorldL (os : Os) (L : List (String × DataW Unit)) : World := (laidWorld os).layVars Tryz.prog (L.filter fun x => x.2.handleName?.isNone)
theorem XhX (os : Os) (L : List (String × DataW Unit)) : (laidWorldL os L).os = os := (World.layVars_os _ _ _).trans rfl
theorem XgS {os : Os} {L : List (String × DataW Unit)} (args : Array Value) (hf : (laidWorld os).layFits Tryz.prog (L.filter fun x => x.2.handleName?.isNone) [] = true) (hi : (laidWorld os).layIfaces Tryz.prog (L.filter fun x => x.2.handleName?.isNone) (laidWorldL os L) = true)
  (hh : (L.filter fun x => x.2.handleName?.isSome).all (handleAtB Tryz.prog (laidWorldL os L)) = true) : laidMetH Tryz.prog L ((laidWorldL os L).forCall (fun _ _ => 0) ⟨#[], args, []⟩).memory := by
 have h : laidMetH Tryz.prog L (laidWorldL os L) := by
  refine laidMetH_of_parts ?_ hh
  generalize hL : (L.filter fun x => x.2.handleName?.isNone) = L' at *
  have e1 : (L'.filter fun x => (L'.map (·.1)).contains x.1) = L' := List.filter_eq_self.2 fun x hx => List.contains_iff_mem.2 (List.mem_map.2 ⟨x, hx, rfl⟩)
  have e2 : (L'.filter fun x => !(L'.map (·.1)).contains x.1) = [] := List.filter_eq_nil_iff.2 fun x hx => by rw [List.contains_iff_mem.2 (List.mem_map.2 ⟨x, hx, rfl⟩)]; simp
  exact laidMet_layVars (w0 := laidWorld os) (L'.map (·.1)) [] (by rw [e1]; unfold laidWorldL; rw [hL]) (by rw [e1]; exact hf) (by rw [e1]; exact hi) (by rw [e2]; exact LaidIn.none)
 exact h.of_heap (by simp [World.memory, World.forCall, Input.heap])
section
variable {H : Type} {enc : TypeId × Value → H}
theorem XgY {a : Assume} {C : Checked} {os : Os} {f : FuncId} {fn : Func} {s : ChangeSpec} {conds : List PathCond} {apart fresh handsOn again : Bool} {X : World → Array Value → Prop}
  (hX : ∀ (w w' : World) (args : Array Value), w.heap = w'.heap → X w args → X w' args)
  (own : ownKnob C.prog.godebug = none) (started : os.Started) (noInit : C.prog.inits.idxOf? f = none) (hfn : C.prog.funcs[f]? = some fn)
  (witness : ∃ (w : World) (tape : Tape) (i : Input), w.os = os ∧ (w.forCall tape i).Shaped C.prog ∧ i.vars = [] ∧ Input.okWide C.prog (w.forCall tape i) .any w.heap.size f i ∧
   ((s.pre enc C.prog fn conds apart (w.forCall tape i).memory i.args ∧ X (w.forCall tape i).memory i.args) ∧ sizedMet enc C.prog fn (OpenSpec.ofChange s) apart (w.forCall tape i).memory i.args) ∧ a.holds C.prog (lone (Frame.enter C.prog f i.args .normal) [] (w.forCall tape i)))
  (contract : ∀ (W : World) (base : Nat) (args : Array Value) (ds gs : List (DataW H)) (before : List MemPlace),
   (∀ (j : Nat) t v, fn.params[j]? = some t → args[j]? = some v → Value.okWide C.prog W .any base t v) →
   DataW.Whole enc C.prog fn.params.toList s.vars apart W args.toList ds gs before →
   conds.all (PathCond.test C.prog ⟨fn.params.toList, ds, s.plain.varTypes C.prog, gs⟩) = true →
   (DataW.weightsEach C.prog (fn.params.toList ++ s.plain.varTypes C.prog) (ds ++ gs)).all (· ≤ reachBytes) = true → X W args → W.ShapedOpen C.prog →
   Calls C.prog f args W fun e W' => ∃ v, e = .returned v ∧ s.post enc C.prog fn apart fresh handsOn again W args v W') :
  ReturnsInHanded a C os f .any (fun w args => (s.pre enc C.prog fn conds apart w args ∧ X w args) ∧ sizedMet enc C.prog fn (OpenSpec.ofChange s) apart w args) (s.post enc C.prog fn apart fresh handsOn again) := by
 refine returnsInHanded_of_calls own started noInit witness fun w tape i _ hsh _ hok hpre _ => ?_
 obtain ⟨_, _, _, fn', hfn', _, _, _, _, hval⟩ := hok
 obtain rfl : fn' = fn := Option.some.inj (hfn'.symm.trans hfn)
 obtain ⟨⟨⟨ds, gs, before, hw, hc⟩, hx⟩, hz⟩ := hpre
 refine (contract (w.forCall tape i) w.heap.size i.args ds gs before hval (DataW.Whole.of_heap (w' := w.forCall tape i) (by rfl) hw) hc (hz.weights hw) (hX _ _ _ (by rfl) hx) hsh).mono fun e W' ⟨v, he, hp⟩ => ?_
 subst he
 exact ChangeSpec.post_blind hp
end
end Go.Proofs.YtdpobjakdplljaaGreatDoor
