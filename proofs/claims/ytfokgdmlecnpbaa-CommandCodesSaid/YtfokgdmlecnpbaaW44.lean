import Derived.Test.YtfokgdmlecnpbaaW23
import Derived.Test.YtfokgdmlecnpbaaW43
import Derived.Test.YtfokgdmlecnpbaaW0
import Derived.ProofKit
import Derived.OpenShut
import Derived.ShutString
import Derived.ChangeOld
import Derived.Lib.SmallJoins
import Derived.SizedLaws
import Derived.Test.YtfokgdmlecnpbaaW24
import Derived.Test.YtfokgdmlecnpbaaW12
/- Commands: their payloads, and back: the plain law. The check of the laws; CommandBack. -/
namespace Go.Proofs.Ytfokgdmlecnpbaa
open Go.RowKit
set_option linter.unusedSimpArgs false
set_option linter.unusedVariables false
/-! ### The plain law -/
theorem made_prop {c : CF} (h : Made c) : propC c = true := by
  rw [propC_len]
  obtain ⟨h1, h2, h3, h4⟩ := h
  by_cases k1 : c.kind = 1
  · rw [if_pos k1] at h2
    rw [if_neg (by omega)] at h3
    rw [if_neg (by omega)] at h4
    have n0 : c.name.length = 0 := by rw [h3]; rfl
    have d0 : c.data.length = 0 := by rw [h4]; rfl
    omega
  · rw [if_neg k1] at h2
    by_cases k2 : c.kind = 2 ∨ c.kind = 4 ∨ c.kind = 5 ∨ c.kind = 6
    · rw [if_pos k2] at h3
      rw [if_neg (by omega)] at h4
      have d0 : c.data.length = 0 := by rw [h4]; rfl
      omega
    · rw [if_neg k2] at h3
      have n0 : c.name.length = 0 := by rw [h3]; rfl
      by_cases k3 : c.kind = 3 ∨ c.kind = 7
      · rw [if_pos k3] at h4
        omega
      · rw [if_neg k3] at h4
        have d0 : c.data.length = 0 := by rw [h4]; rfl
        omega
theorem byte_nat {n : Int} (h0 : 0 ≤ n) (h1 : n < 256) : ((byte n).toNat : Int) = n := byte_val h0 h1
theorem byte_back (x : UInt8) : byte (x.toNat : Int) = x := by
  unfold byte
  simp
theorem same_refl (c : CF) : sameC c c = true := by simp [sameC]
theorem pay_back {c : CF} (h : propC c = true) : okD (payC c) = true ∧ decC (payC c) = c := by
  have hp := (propC_len c).1 h
  have hk := byte_nat (n := c.kind) (by omega) (by omega)
  by_cases k1 : c.kind = 1
  · have hr := byte_nat (n := c.rows) (by omega) (by omega)
    have hcl := byte_nat (n := c.cols) (by omega) (by omega)
    have n0 : c.name = [] := List.length_eq_zero_iff.1 (by omega)
    have d0 : c.data = [] := List.length_eq_zero_iff.1 (by omega)
    have e : payC c = [byte c.kind, 0, byte c.rows, 0, byte c.cols] := by unfold payC; rw [if_pos k1, n0, d0]; rfl
    have er : rawC (byte c.kind) [0, byte c.rows, 0, byte c.cols] = c := by
      rw [rawC_1 _ _ _ _ (by omega), hk, hr, hcl]
      obtain ⟨k, r, cl, nm, dt⟩ := c
      simp only at n0 d0
      subst n0 d0
      simp
    have eo : okD (payC c) = true := by rw [e, okD_1, er]; exact h
    exact ⟨eo, by rw [e] at eo ⊢; rw [dec_ok eo, er]⟩
  · by_cases k3 : c.kind = 3 ∨ c.kind = 7
    · have n0 : c.name = [] := List.length_eq_zero_iff.1 (by omega)
      have e : payC c = byte c.kind :: c.data := by unfold payC; rw [if_neg k1, n0]; rfl
      have er : rawC (byte c.kind) c.data = c := by
        rw [rawC_d _ (by omega), hk]
        have r0 : c.rows = 0 := by omega
        have c0 : c.cols = 0 := by omega
        obtain ⟨k, r, cl, nm, dt⟩ := c
        simp only at n0 r0 c0
        subst n0 r0 c0
        rfl
      have eo : okD (payC c) = true := by rw [e, okD_n _ (by omega), er]; exact h
      exact ⟨eo, by rw [e] at eo ⊢; rw [dec_ok eo, er]⟩
    · have d0 : c.data = [] := List.length_eq_zero_iff.1 (by omega)
      have e : payC c = byte c.kind :: c.name := by unfold payC; rw [if_neg k1, d0, List.append_nil]; rfl
      have er : rawC (byte c.kind) c.name = c := by
        rw [rawC_n _ (by omega) (by omega) (by omega), hk]
        have r0 : c.rows = 0 := by omega
        have c0 : c.cols = 0 := by omega
        obtain ⟨k, r, cl, nm, dt⟩ := c
        simp only at d0 r0 c0
        subst d0 r0 c0
        rfl
      have eo : okD (payC c) = true := by rw [e, okD_n _ (by omega), er]; exact h
      exact ⟨eo, by rw [e] at eo ⊢; rw [dec_ok eo, er]⟩
theorem u8_zero {p : UInt8} (h : p.toNat = 0) : p = 0 := UInt8.toNat_inj.1 (by rw [h]; rfl)
theorem back_pay {b : List UInt8} (h : okD b = true) : propC (decC b) = true ∧ payC (decC b) = b := by
  match b, h with
  | x :: s, h =>
    have h' : (decide (x.toNat = 1 → s.length = 4) && propC (rawC x s)) = true := h
    rw [Bool.and_eq_true, decide_eq_true_eq] at h'
    rw [dec_ok h]
    refine ⟨h'.2, ?_⟩
    by_cases k1 : (x.toNat : Int) = 1
    · obtain ⟨p, q, r, t, rfl⟩ : ∃ p q r t, s = [p, q, r, t] := by
        match s, h'.1 (by omega) with
        | [p, q, r, t], _ => exact ⟨p, q, r, t, rfl⟩
      have hr := rawC_1 p q r t k1
      have hp := (propC_len _).1 h'.2
      rw [hr] at hp ⊢
      dsimp only [List.length_nil] at hp
      have p0 : p.toNat = 0 := by omega
      have r0 : r.toNat = 0 := by omega
      unfold payC
      dsimp only
      rw [if_pos k1, u8_zero p0, u8_zero r0, byte_back]
      have e1 : (((0 : UInt8).toNat : Nat) : Int) * 256 + (q.toNat : Int) = (q.toNat : Int) := by simp
      have e2 : (((0 : UInt8).toNat : Nat) : Int) * 256 + (t.toNat : Int) = (t.toNat : Int) := by simp
      rw [e1, e2, byte_back, byte_back]
      rfl
    · by_cases k3 : (x.toNat : Int) = 3 ∨ (x.toNat : Int) = 7
      · rw [rawC_d s k3]
        unfold payC
        dsimp only
        rw [if_neg k1, byte_back]
        rfl
      · rw [rawC_n s k1 (by omega) (by omega)]
        unfold payC
        dsimp only
        rw [if_neg k1, byte_back, List.append_nil]
        rfl
theorem dec_bad {b : List UInt8} (h : okD b = false) : decC b = .zero := by
  match b, h with
  | [], _ => rfl
  | x :: s, h => exact dec_no h
theorem pay_len {c : CF} (h : propC c = true) : (payC c).length ≤ 4096 := by
  have hp := (propC_len c).1 h
  unfold payC
  split <;> simp only [List.length_cons, List.length_append, List.length_nil] <;> omega
/-! ### The check -/
def hello : CF := ⟨1, 24, 80, [], []⟩
set_option maxRecDepth 100000 in
set_option maxHeartbeats 8000000 in
theorem sane_s : Spec Try.prog 5 [] [] (fun r H' => r = .x (.bool true) ∧ H' = []) := by
  have p : propC hello = true := by decide
  have he := encode_yes hello p
  have e : payC hello = [1, 0, 24, 0, 80] := by decide
  rw [e] at he
  unfold CF.cells hello at he
  dsimp only at he
  refine Spec_of Try.func5 rfl ?_
  simp only [Try.ntmps5, List.length_cons, List.length_nil, List.replicate_succ, List.replicate_zero, List.cons_append, List.nil_append, Nat.reduceAdd, Nat.reduceSub]
  (repeat' (first | with_reducible (first | refine awp_seq ?_ | refine awp_region ?_ | refine awp_ret ?_ | refine awpL_nil ?_ | refine thenA_normal ?_) | ((first | apply awpL_evl2 rfl | apply awpL_g2 _ _ rfl rfl rfl); (case h => ((try (intro (hp : (_ : Bool) = true); ((try simp only [Bool.and_eq_true, Bool.not_eq_true', Bool.not_eq_true] at hp); (try simp only [hp, wte]); (try simp only [whn] at hp)))); (first | (apply Evl_k 0 rfl; (first | exact Evl_mv _ rfl | exact Evl_as _ rfl)) | (apply Evl_k 1 rfl; (exact Evl_pickt _ _ _ rfl rfl)) | (apply Evl_k 2 rfl; (exact Evl_extract _ _ _ _ rfl rfl rfl)) | (apply Evl_k 10 rfl; (exact Evl_build1 _ _ _ _ rfl HPl.out (by decide) rfl (by simp [wtb, AV.one, Value.oneCell']))) | (apply Evl_k 11 rfl; (exact Evl_call 9 Try.f9 _ _ rfl rfl Try.func9 (by decide) rfl (VwL.cons (Vw.aggx (by (repeat' (first | exact VwL.nil | (refine VwL.cons ?_ ?_) | exact Vw.refl _ | exact Vw.nil | fail)))) VwL.nil) (he))) | (apply Evl_k 12 rfl; (exact Evl_string _ _ 5 _ [1, 0, 24, 0, 80] rfl (by kernel_rfl) (by kernel_rfl) (by kernel_rfl) (Src.sq rfl))) | (apply Evl_x; (case hs => (intro _ _ h; cases h)); (case hx => rfl); (case hrun => (intro w; simp [wtb, AV.val, go_sem]; (try go_bits); rfl)))))); (case hT => ((try simp only [wtn, List.append_eq, List.foldl_cons, List.foldl_nil, List.map_cons, List.map_nil, Nat.reduceAdd, Nat.reduceMul, Nat.reduceSub, ↓reduceIte, Nat.reduceEqDiff]); rfl))) | fail))
  refine endA_ret _ _ (Res1 rfl (RV.tmp _) (Weak.mk' [] _ (List.Perm.refl _) (VwHs.refl _ _) (VwL.refl _ _))) ?_
  exact ⟨rfl, rfl⟩
end Go.Proofs.Ytfokgdmlecnpbaa
/- How a law's arguments are opened: what the reading of a []byte, a []int or a struct gives the walk. No program in sight. -/
namespace Go.Proofs.Ytfokgdmlecnpbaa
open Go.ChangeShapes Go.WideShapes Go.ChangeAt Go.RowKit Go.Joins
set_option linter.unusedSimpArgs false
set_option linter.unusedVariables false
/-- A []int that reads as l. -/
def Is (lo : Nat) (w : World) (v : Value) (l : List Int) : Prop := Sl lo w v l.length (l.map (Value.int .i64))
theorem Is.mono {lo : Nat} {w w' : World} {v : Value} {l : List Int} (h : Is lo w v l) (hb : Ext w w') : Is lo w' v l := Sl.mono h hb
theorem Is.shape {lo : Nat} {w : World} {v : Value} {l : List Int} (h : Is lo w v l) : ∃ ad cap, v = .slice ad l.length cap ∧ l.length ≤ cap := Sl.shape h
def I64s (l : List Int) : Prop := ∀ x ∈ l, -9223372036854775808 ≤ x ∧ x ≤ 9223372036854775807
section
variable {H : Type} {enc : TypeId × Value → H} {P : Program} {W : World} {fuel : Nat} {t e : TypeId} {v : Value} {x : DataW H × List MemPlace}
theorem open_row {k : IntKind} (ht : P.underlying t = some (.slice e)) (he : P.underlying e = some (.int k)) (hc : P.cellsOf e = 1)
    (h : DataW.trod enc P W 0 (fun _ => true) true fuel t [v] = some x) (hsz : ∀ n ∈ x.1.weights P t, n ≤ reachBytes) :
    ∃ zs : List Int, Sl 0 W v zs.length (zs.map (Value.int k)) ∧ (∀ n ∈ zs, (Lit.int k n).wf = true) ∧ zs.length * P.bytesOf e ≤ reachBytes := by
  rcases open_ints ht he hc h with ⟨hcs, hx⟩ | ⟨a, len, cap, zs, hcs, _, hl, hm, hz, hx, hcell, hwz⟩
  · simp at hcs
    subst hcs
    exact ⟨[], Sl.nil _ _, by simp, by simp⟩
  · simp at hcs
    subst hcs
    have hz' : zs.length = cap := by simpa using hz
    have hlen : (zs.take len).length = len := by simp; omega
    refine ⟨zs.take len, ?_, fun n hn => hwz n (List.mem_of_mem_take hn), ?_⟩
    · refine ⟨some a, cap, by rw [hlen], by rw [hlen]; exact hl, hm, (by intro h; cases h), fun _ _ => Nat.zero_le _, fun j u hj => ⟨a, rfl, ?_⟩⟩
      rw [List.getElem?_map, List.getElem?_take] at hj
      split at hj
      · rename_i hjl
        have hjz : j < zs.length := by omega
        rw [hcell j hjz]
        simp [List.getElem?_eq_getElem hjz] at hj
        simp [← hj, List.getD, List.getElem?_eq_getElem hjz]
      · simp at hj
    · have := hsz ((lits (H := H) k (zs.take len)).length * P.bytesOf e + (lits (H := H) k (zs.drop len)).length * P.bytesOf e) (by rw [hx]; simp [DataW.weights, ht, Nat.add_mul])
      have h2 : (lits (H := H) k (zs.take len)).length = (zs.take len).length := by simp [lits]
      rw [h2] at this
      omega
theorem open_bytes (ht : P.underlying t = some (.slice e)) (he : P.underlying e = some (.int .u8)) (hc : P.cellsOf e = 1) (hb : P.bytesOf e = 1)
    (h : DataW.trod enc P W 0 (fun _ => true) true fuel t [v] = some x) (hsz : ∀ n ∈ x.1.weights P t, n ≤ reachBytes) :
    ∃ l : List UInt8, Bs 0 W v l ∧ l.length ≤ 140737488355328 := by
  obtain ⟨zs, h1, h2, h3⟩ := open_row ht he hc h hsz
  refine ⟨zs.map fun n => UInt8.ofNat n.toNat, ?_, ?_⟩
  · unfold Bs
    have : u8s (zs.map fun n => UInt8.ofNat n.toNat) = zs.map (Value.int .u8) := by
      simp only [u8s, List.map_map]
      apply List.map_congr_left
      intro n hn
      have hw := h2 n hn
      simp [Lit.wf, IntKind.min, IntKind.max, IntKind.signed, IntKind.bits] at hw
      simp
      omega
    rw [this, List.length_map]; exact h1
  · rw [List.length_map, ]
    rw [hb, Nat.mul_one] at h3
    have := reachBytes_lt
    omega
theorem open_is (ht : P.underlying t = some (.slice e)) (he : P.underlying e = some (.int .i64)) (hc : P.cellsOf e = 1) (hb : P.bytesOf e = 8)
    (h : DataW.trod enc P W 0 (fun _ => true) true fuel t [v] = some x) (hsz : ∀ n ∈ x.1.weights P t, n ≤ reachBytes) :
    ∃ l : List Int, Is 0 W v l ∧ I64s l ∧ l.length ≤ 140737488355328 := by
  obtain ⟨zs, h1, h2, h3⟩ := open_row ht he hc h hsz
  refine ⟨zs, h1, fun n hn => ?_, ?_⟩
  · have hw := h2 n hn
    simp [Lit.wf, IntKind.min, IntKind.max, IntKind.signed, IntKind.bits] at hw
    omega
  · rw [hb] at h3
    have := reachBytes_lt
    omega
end
theorem i64_bounds {a : Int} (h : (Lit.int .i64 a).wf = true) : -9223372036854775808 ≤ a ∧ a ≤ 9223372036854775807 := by
  simp [Lit.wf, IntKind.min, IntKind.max, IntKind.signed, IntKind.bits] at h
  omega
theorem weights_le {H : Type} {P : Program} {ts : List TypeId} {ds : List (DataW H)} (h : (DataW.weightsEach P ts ds).all (· ≤ reachBytes) = true) {j : Nat} {t : TypeId} {d : DataW H} (ht : ts[j]? = some t) (hd : ds[j]? = some d) : ∀ n ∈ d.weights P t, n ≤ reachBytes := fun n hn => by
  have := List.all_eq_true.1 h _ (DataW.weights_mem_each ht hd n hn)
  simpa using this
end Go.Proofs.Ytfokgdmlecnpbaa
/- How a law is entered: what the arguments' readings say of a walk's values. -/
namespace Go.Proofs.Ytfokgdmlecnpbaa
open Go.RowKit
set_option linter.unusedSimpArgs false
set_option linter.unusedVariables false
theorem Sl.den {W : World} {v : Value} {n : Nat} {xs : List Value} (h : Sl 0 W v n xs) (h1 : ∀ u ∈ xs, u.oneCell' = true) : Den (fun _ => False) W (.sq n (xs.map AV.x)) v := by
  obtain ⟨ad, cap, rfl, h1', h2, h3, h4⟩ := Sl.split h
  rw [Den]
  refine ⟨ad, cap, xs, rfl, h1', h2, h3, ?_, DenL.exact⟩
  rcases h4 with h4 | ⟨b, o, rfl, _, hc⟩
  · exact .inl h4
  · exact .inr ⟨b, o, rfl, fun h => h, fun j u hj => ⟨hc j u hj, h1 u (List.mem_of_getElem? hj)⟩⟩
theorem Is.den {W : World} {v : Value} {l : List Int} (h : Is 0 W v l) : Den (fun _ => False) W (.sq l.length (ia l)) v := by
  have := Sl.den h (fun u hu => by obtain ⟨n, -, rfl⟩ := List.mem_map.1 hu; rfl)
  have e : ia l = (l.map (Value.int .i64)).map AV.x := by simp [ia]
  rw [e]; exact this
theorem Bs.den {W : World} {v : Value} {l : List UInt8} (h : Bs 0 W v l) : Den (fun _ => False) W (.sq l.length (u8a l)) v :=
  Sl.den h (fun u hu => by obtain ⟨n, -, rfl⟩ := List.mem_map.1 hu; rfl)
end Go.Proofs.Ytfokgdmlecnpbaa
/- CommandBack: the walk. -/
namespace Go.Proofs.Ytfokgdmlecnpbaa
open Go.RowKit
set_option linter.unusedSimpArgs false
set_option linter.unusedVariables false
set_option maxRecDepth 100000 in
set_option maxHeartbeats 8000000 in
theorem new_w (l : List Int) (H : List Hp) : Spec Try.prog 7 H [.sq l.length (ia l)] (fun r H' => ∃ b, r = .x (.pointer (some ⟨b, 0, none⟩)) ∧ H' = .box b [.sq l.length (ia l), .x (.int .i64 0)] :: H) := by
  refine Spec_of Try.func7 rfl ?_
  simp only [Try.ntmps7, List.length_cons, List.length_nil, List.replicate_succ, List.replicate_zero, List.cons_append, List.nil_append, Nat.reduceAdd, Nat.reduceSub]
  (repeat' (first | with_reducible (first | refine awp_seq ?_ | refine awp_region ?_ | refine awp_ret ?_ | refine awpL_nil ?_ | refine thenA_normal ?_) | ((apply awpL_evl2 rfl); (case h => ((try (intro (hp : (_ : Bool) = true); ((try simp only [Bool.and_eq_true, Bool.not_eq_true', Bool.not_eq_true] at hp); (try simp only [hp, wte]); (try simp only [whn] at hp)))); (first | (apply Evl_k 0 rfl; (first | exact Evl_mv _ rfl | exact Evl_as _ rfl)) | (apply Evl_k 10 rfl; (exact Evl_build _ _ _ _ _ rfl HPl.out (by first | rfl | fail) rfl))))); (case hT => ((try simp only [wtn, List.append_eq, List.foldl_cons, List.foldl_nil, List.map_cons, List.map_nil, Nat.reduceAdd, Nat.reduceMul, Nat.reduceSub, ↓reduceIte, Nat.reduceEqDiff]); rfl))) | (refine awpL_cons rfl ?_; (((refine Stp_k 15 rfl ?_; ((refine Stp_box _ _ rfl (by first | rfl | fail) (fun b => ?_))))); apply awpL_cong; (case hT => ((try simp only [wtn, List.append_eq, List.foldl_cons, List.foldl_nil, List.map_cons, List.map_nil, Nat.reduceAdd, Nat.reduceMul, Nat.reduceSub, ↓reduceIte, Nat.reduceEqDiff]); rfl)); (case hH => ((try simp only [wtn, List.append_eq, List.foldl_cons, List.foldl_nil, List.map_cons, List.map_nil, Nat.reduceAdd, Nat.reduceMul, Nat.reduceSub, ↓reduceIte, Nat.reduceEqDiff]); rfl)))) | fail))
  refine endA_ret _ _ (Res1 rfl (RV.tmp _) (Weak.mk' [] _ (List.Perm.refl _) (VwHs.refl _ _) (VwL.refl _ _))) ?_
  exact ⟨_, rfl, rfl⟩
set_option maxRecDepth 100000 in
set_option maxHeartbeats 8000000 in
theorem back_spec (l : List Int) (bb : List UInt8) (hd : DK l) (hb : bb.length ≤ 140737488355328) : Spec Try.prog 4 [] [.sq l.length (ia l), .sq bb.length (u8a bb)] (fun r H' => r = .x (.bool true) ∧ H' = []) := by
  refine Spec_of Try.func4 rfl ?_
  simp only [Try.ntmps4, List.length_cons, List.length_nil, List.replicate_succ, List.replicate_zero, List.cons_append, List.nil_append, Nat.reduceAdd, Nat.reduceSub]
  (repeat' (first | with_reducible (first | refine awp_seq ?_ | refine awp_region ?_ | refine awp_ret ?_ | refine awp_skip ?_ | refine awpL_nil ?_ | refine thenA_normal ?_ | refine thenA_ret ?_) | (refine awp_cond _ rfl (fun h => ?_) (fun h => ?_) <;> first | (exact absurd h (by decide)) | ((try (simp only [whn] at h)); skip)) | ((apply awpL_evl2 rfl); (case h => ((try (intro (hp : (_ : Bool) = true); ((try simp only [Bool.and_eq_true, Bool.not_eq_true', Bool.not_eq_true] at hp); (try simp only [hp, wte]); (try simp only [whn] at hp)))); (first | (apply Evl_k 0 rfl; (first | exact Evl_mv _ rfl | exact Evl_as _ rfl)) | (apply Evl_k 3 rfl; (exact Evl_len _ _ _ _ _ _ HEl.out rfl rfl)) | (apply Evl_k 6 rfl; (exact Evl_load _ _ _ _ _ _ _ _ rfl rfl FBox.out HAgg.out (by first | exact Nat.le_of_ble_eq_true rfl | fail) (by first | exact Nat.le_of_ble_eq_true rfl | fail))) | (apply Evl_k 11 rfl; (exact Evl_call 5 Try.f5 _ _ rfl rfl Try.func5 (by decide) rfl (VwL.refl _ _) (sane_s))) | (apply Evl_x; (case hs => (intro _ _ h; cases h)); (case hx => rfl); (case hrun => (intro w; simp [wtb, AV.val, go_sem]; (try go_bits); rfl)))))); (case hT => ((try simp (disch := omega) only [wtn, CF.cells, List.append_eq, List.foldl_cons, List.foldl_nil, List.map_cons, List.map_nil, Nat.reduceAdd, Nat.reduceMul, Nat.reduceSub, ↓reduceIte, Nat.reduceEqDiff]); rfl))) | (refine awpL_cons rfl ?_; ((first | (refine Stp_k 11 rfl ?_; (first | (refine Stp_call 7 Try.f7 ([]) _ _ _ rfl rfl Try.func7 (by decide) rfl (List.Perm.refl _) (VwL.refl _ _) (new_w l []) ?_; rintro _ _ ⟨bd, rfl, rfl⟩) | (refine Stp_call 6 Try.f6 [_] _ _ _ rfl rfl Try.func6 (by decide) rfl (List.Perm.refl _) (VwL.refl _ _) (command_w _ l 0 hd (Nat.zero_le _)) ?_; rintro _ _ ⟨c, k1, rfl, rfl, hk1, hc⟩))) | (refine Stp_k 14 rfl ?_; ((refine Stp_alloc _ _ rfl HZero.out rfl (fun b => ?_)))) | (refine Stp_k 16 rfl ?_; ((refine Stp_store _ _ _ _ _ _ _ rfl rfl FBox.out HSize.out (by first | rfl | fail) (by first | exact Nat.le_of_ble_eq_true rfl | fail) ?_)))); apply awpL_cong; (case hT => ((try simp (disch := omega) only [wtn, CF.cells, List.append_eq, List.foldl_cons, List.foldl_nil, List.map_cons, List.map_nil, Nat.reduceAdd, Nat.reduceMul, Nat.reduceSub, ↓reduceIte, Nat.reduceEqDiff]); rfl)); (case hH => ((try simp (disch := omega) only [wtn, CF.cells, List.append_eq, List.foldl_cons, List.foldl_nil, List.map_cons, List.map_nil, Nat.reduceAdd, Nat.reduceMul, Nat.reduceSub, ↓reduceIte, Nat.reduceEqDiff]); rfl)))) | fail))
  · refine endA_ret _ _ (Res1 rfl (RV.tmp _) (Weak.mk' [] _ (List.Perm.refl _) (VwHs.refl _ _) (VwL.refl _ _))) ?_
    exact ⟨rfl, rfl⟩
  · have hp := made_prop hc
    have he := encode_yes c hp
    have hd1 := decode_s (payC c) (Nat.le_trans (pay_len hp) (by decide))
    rw [(pay_back hp).1, (pay_back hp).2] at hd1
    have hs := same28_s c c
    rw [same_refl] at hs
    have hb2 := decode_s bb (by omega)
    cases hob : okD bb with
    | false =>
      rw [hob, dec_bad hob] at hb2
      simp only [errC, if_true, Bool.false_eq_true, if_false] at hd1 hb2
      unfold CF.zero at hb2
      simp only [CF.cells] at he hd1 hs hb2
      clear hc hob
      (repeat' (first | with_reducible (first | refine awp_seq ?_ | refine awp_region ?_ | refine awp_ret ?_ | refine awp_skip ?_ | refine awpL_nil ?_ | refine thenA_normal ?_ | refine thenA_ret ?_) | (refine awp_cond _ rfl (fun h => ?_) (fun h => ?_) <;> first | (exact absurd h (by decide)) | ((try (simp only [whn] at h)); skip)) | ((first | apply awpL_evl2 rfl | apply awpL_g2 _ _ rfl rfl rfl); (case h => ((try (intro (hp : (_ : Bool) = true); ((try simp only [Bool.and_eq_true, Bool.not_eq_true', Bool.not_eq_true] at hp); (try simp only [hp, wte]); (try simp only [whn] at hp)))); (first | (apply Evl_k 0 rfl; (first | exact Evl_mv _ rfl | exact Evl_as _ rfl)) | (apply Evl_k 1 rfl; (first | exact Evl_pickf _ _ _ rfl rfl | exact Evl_pickt _ _ _ rfl rfl)) | (apply Evl_k 2 rfl; (exact Evl_extract _ _ _ _ rfl rfl rfl)) | (apply Evl_k 5 rfl; (exact Evl_field_x _ _ _ _ _ _ rfl rfl HFld.out)) | (apply Evl_k 6 rfl; (exact Evl_load _ _ _ _ _ _ _ _ rfl rfl FBox.out HAgg.out (by first | exact Nat.le_of_ble_eq_true rfl | fail) (by first | exact Nat.le_of_ble_eq_true rfl | fail))) | (apply Evl_k 11 rfl; (first | exact Evl_call 9 Try.f9 _ _ rfl rfl Try.func9 (by decide) rfl (VwL.refl _ _) (he) | exact Evl_call 11 Try.f11 _ _ rfl rfl Try.func11 (by decide) rfl (VwL.refl _ _) (hd1) | exact Evl_call 11 Try.f11 _ _ rfl rfl Try.func11 (by decide) rfl (VwL.refl _ _) (hb2) | exact Evl_call 13 Try.f13 _ _ rfl rfl Try.func13 (by decide) rfl (VwL.refl _ _) (hs))) | (apply Evl_x; (case hs => (intro _ _ h; cases h)); (case hx => rfl); (case hrun => (intro w; simp [wtb, AV.val, go_sem]; (try go_bits); rfl)))))); (case hT => ((try simp only [wtn, List.append_eq, List.foldl_cons, List.foldl_nil, List.map_cons, List.map_nil, Nat.reduceAdd, Nat.reduceMul, Nat.reduceSub, ↓reduceIte, Nat.reduceEqDiff]); rfl))) | (refine awpL_cons rfl ?_; ((first | (refine Stp_k 14 rfl ?_; ((refine Stp_alloc _ _ rfl HZero.out rfl (fun b => ?_)))) | (refine Stp_k 16 rfl ?_; ((refine Stp_store _ _ _ _ _ _ _ rfl rfl FBox.out HSize.out (by first | rfl | fail) (by first | exact Nat.le_of_ble_eq_true rfl | fail) ?_)))); apply awpL_cong; (case hT => ((try simp only [wtn, List.append_eq, List.foldl_cons, List.foldl_nil, List.map_cons, List.map_nil, Nat.reduceAdd, Nat.reduceMul, Nat.reduceSub, ↓reduceIte, Nat.reduceEqDiff]); rfl)); (case hH => ((try simp only [wtn, List.append_eq, List.foldl_cons, List.foldl_nil, List.map_cons, List.map_nil, Nat.reduceAdd, Nat.reduceMul, Nat.reduceSub, ↓reduceIte, Nat.reduceEqDiff]); rfl)))) | fail))
      refine endA_ret _ _ (Res1 rfl (RV.tmp _) (Weak.mk' [_, _, _, _] [] (List.Perm.refl _) (VwHs.refl _ _) (by first | exact VwL.refl _ _ | fail))) ?_
      exact ⟨rfl, rfl⟩
    | true =>
      have hy := encode_yes (decC bb) (back_pay hob).1
      rw [(back_pay hob).2] at hy
      rw [hob] at hb2
      simp only [errC, if_true, Bool.false_eq_true, if_false] at hd1 hb2
      simp only [CF.cells] at he hd1 hs hb2 hy
      clear hc hob
      (repeat' (first | with_reducible (first | refine awp_seq ?_ | refine awp_region ?_ | refine awp_ret ?_ | refine awp_skip ?_ | refine awpL_nil ?_ | refine thenA_normal ?_) | (refine awp_cond _ rfl (fun h => ?_) (fun h => ?_) <;> first | (exact absurd h (by decide)) | ((try (simp only [whn] at h)); skip)) | ((first | apply awpL_evl2 rfl | apply awpL_g2 _ _ rfl rfl rfl); (case h => ((try (intro (hp : (_ : Bool) = true); ((try simp only [Bool.and_eq_true, Bool.not_eq_true', Bool.not_eq_true] at hp); (try simp only [hp, wte]); (try simp only [whn] at hp)))); (first | (apply Evl_k 0 rfl; (first | exact Evl_mv _ rfl | exact Evl_as _ rfl)) | (apply Evl_k 1 rfl; (first | exact Evl_pickf _ _ _ rfl rfl | exact Evl_pickt _ _ _ rfl rfl)) | (apply Evl_k 2 rfl; (exact Evl_extract _ _ _ _ rfl rfl rfl)) | (apply Evl_k 6 rfl; (exact Evl_load _ _ _ _ _ _ _ _ rfl rfl FBox.out HAgg.out (by first | exact Nat.le_of_ble_eq_true rfl | fail) (by first | exact Nat.le_of_ble_eq_true rfl | fail))) | (apply Evl_k 11 rfl; (first | exact Evl_call 9 Try.f9 _ _ rfl rfl Try.func9 (by decide) rfl (VwL.refl _ _) (he) | exact Evl_call 9 Try.f9 _ _ rfl rfl Try.func9 (by decide) rfl (VwL.refl _ _) (hy) | exact Evl_call 11 Try.f11 _ _ rfl rfl Try.func11 (by decide) rfl (VwL.refl _ _) (hd1) | exact Evl_call 11 Try.f11 _ _ rfl rfl Try.func11 (by decide) rfl (VwL.refl _ _) (hb2) | exact Evl_call 13 Try.f13 _ _ rfl rfl Try.func13 (by decide) rfl (VwL.refl _ _) (hs))) | (apply Evl_k 12 rfl; (exact Evl_string _ _ 5 _ _ rfl (by kernel_rfl) (by kernel_rfl) (by kernel_rfl) (Src.sq rfl))) | (apply Evl_x; (case hs => (intro _ _ h; cases h)); (case hx => rfl); (case hrun => (intro w; simp [wtb, AV.val, go_sem]; (try go_bits); rfl)))))); (case hT => ((try simp only [wtn, List.append_eq, List.foldl_cons, List.foldl_nil, List.map_cons, List.map_nil, Nat.reduceAdd, Nat.reduceMul, Nat.reduceSub, ↓reduceIte, Nat.reduceEqDiff]); rfl))) | (refine awpL_cons rfl ?_; ((first | (refine Stp_k 14 rfl ?_; ((refine Stp_alloc _ _ rfl HZero.out rfl (fun b => ?_)))) | (refine Stp_k 16 rfl ?_; ((refine Stp_store _ _ _ _ _ _ _ rfl rfl FBox.out HSize.out (by first | rfl | fail) (by first | exact Nat.le_of_ble_eq_true rfl | fail) ?_)))); apply awpL_cong; (case hT => ((try simp only [wtn, List.append_eq, List.foldl_cons, List.foldl_nil, List.map_cons, List.map_nil, Nat.reduceAdd, Nat.reduceMul, Nat.reduceSub, ↓reduceIte, Nat.reduceEqDiff]); rfl)); (case hH => ((try simp only [wtn, List.append_eq, List.foldl_cons, List.foldl_nil, List.map_cons, List.map_nil, Nat.reduceAdd, Nat.reduceMul, Nat.reduceSub, ↓reduceIte, Nat.reduceEqDiff]); rfl)))) | fail))
      refine endA_ret _ _ (Res1 rfl (RV.tmp _) (Weak.mk' [_, _, _, _] [] (List.Perm.refl _) (VwHs.refl _ _) (by first | exact VwL.refl _ _ | fail))) ?_
      exact ⟨rfl, rfl⟩
end Go.Proofs.Ytfokgdmlecnpbaa
/- CommandCodes: the walk. -/
namespace Go.Proofs.Ytfokgdmlecnpbaa
open Go.RowKit
set_option linter.unusedSimpArgs false
set_option linter.unusedVariables false
attribute [local simp] u8a_len
section
variable {P : Program} {x y : Code} {Q : Post} {T : List AV} {H : List Hp}
/-- One state for all the ways through x. -/
theorem awp_seqS {S : Type} (Tf : S → List AV) (Hf : S → List Hp) (Inv : S → Prop) (h1 : awp P x (thenA (fun T' H' => ∃ s, Inv s ∧ Weak H' T' (Hf s) (Tf s)) Q) T H) (h2 : ∀ s, Inv s → awp P y Q (Tf s) (Hf s)) : awp P x (thenA (awp P y Q) Q) T H :=
  awp_mono h1 fun e T H q => by
    cases e with
    | normal => obtain ⟨s, hs, hw⟩ := q; exact awp_weak hw (h2 s hs)
    | _ => exact q
end
/-- A list of commands, cell by cell. -/
def ca (cs : List CF) : List AV := cs.flatMap CF.cells
theorem ca_drop (cs : List CF) (k : Nat) (h : k < cs.length) : (ca cs).drop (k * 5) = .x (.int .i64 (cs.getD k .zero).kind) :: .x (.int .i64 (cs.getD k .zero).rows) :: .x (.int .i64 (cs.getD k .zero).cols) :: .x (.string (bs (cs.getD k .zero).name)) :: .sq (cs.getD k .zero).data.length (u8a (cs.getD k .zero).data) :: (ca cs).drop ((k + 1) * 5) := by
  induction cs generalizing k with
  | nil => simp at h
  | cons c cs ih =>
    have e : ca (c :: cs) = .x (.int .i64 c.kind) :: .x (.int .i64 c.rows) :: .x (.int .i64 c.cols) :: .x (.string (bs c.name)) :: .sq c.data.length (u8a c.data) :: ca cs := rfl
    rw [e]
    cases k with
    | zero => simp
    | succ k =>
      rw [show (k + 1) * 5 = k * 5 + 5 by omega, show (k + 1 + 1) * 5 = (k + 1) * 5 + 5 by omega]
      simp only [List.drop_succ_cons, List.getD_cons_succ]
      exact ih k (by simpa using h)
theorem ca_len (cs : List CF) : (ca cs).length = cs.length * 5 := by
  induction cs with
  | nil => rfl
  | cons c cs ih =>
    have e : ca (c :: cs) = c.cells ++ ca cs := rfl
    rw [e, List.length_append, ih, List.length_cons]
    show 5 + _ = _
    omega
/-- A list of payloads. -/
def ba (xs : List (List UInt8)) : List AV := xs.map fun l => .sq l.length (u8a l)
theorem ba_drop (xs : List (List UInt8)) (k : Nat) (h : k < xs.length) : (ba xs).drop k = .sq (xs.getD k []).length (u8a (xs.getD k [])) :: (ba xs).drop (k + 1) := by
  unfold ba
  rw [List.drop_eq_getElem_cons (by simpa using h)]
  simp [List.getElem?_eq_getElem h]
theorem ba_len (xs : List (List UInt8)) : (ba xs).length = xs.length := by simp [ba]
end Go.Proofs.Ytfokgdmlecnpbaa
