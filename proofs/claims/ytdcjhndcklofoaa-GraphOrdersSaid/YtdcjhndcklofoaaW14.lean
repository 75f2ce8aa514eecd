import Derived.Test.YtdcjhndcklofoaaRows
import Derived.Test.YtdcjhndcklofoaaW0
import Derived.Test.YtdcjhndcklofoaaW12
import Derived.Test.YtdcjhndcklofoaaW13
/- jobmuxmill.Mod: the remainder, from 0 on. -/
namespace Go.Proofs.Ytdcjhndcklofoaa
open Go.RowKit
set_option linter.unusedSimpArgs false
set_option linter.unusedVariables false
theorem tmod_neg {v n : Int} (hn : 0 < n) (h : v.tmod n < 0) : v.tmod n + n = v % n := by
  rw [Int.tmod_eq_emod] at *
  have := Int.emod_nonneg v (show n ≠ 0 by omega)
  split at h <;> rename_i hc <;> simp [hc] at *
  · omega
  · omega
theorem tmod_pos {v n : Int} (hn : 0 < n) (h : 0 ≤ v.tmod n) : v.tmod n = v % n := by
  rw [Int.tmod_eq_emod] at *
  have := Int.emod_lt_of_pos v hn
  split <;> rename_i hc <;> simp [hc] at *
  omega
theorem ret_i64 {a b : Int} (h : a = b) : Ending.returned (.int .i64 a) = .returned (.int .i64 b) := by rw [h]
set_option maxRecDepth 100000 in
set_option maxHeartbeats 800000 in
theorem mod_any (v n : Int) (w : World) (hn : 1 ≤ n) (hn2 : n ≤ 9223372036854775807) (hv : -9223372036854775808 ≤ v) (hv2 : v ≤ 9223372036854775807) :
    Calls Try.prog 28 #[.int .i64 v, .int .i64 n] w fun e w' => e = .returned (.int .i64 (v % n)) ∧ w = w' := by
  have h0 : ¬ n = 0 := by omega
  have h1 : v.tmod n < n := Int.tmod_lt_of_pos v (by omega)
  have h2 : -n < v.tmod n := by
    have := Int.lt_tmod_of_pos v (show 0 < n by omega); omega
  go_enter Try.func28, Try.ntmps28
  go_wp2
  all_goals go_ret
  · exact ⟨ret_i64 (tmod_neg (by omega) (by assumption)), rfl⟩
  · exact ⟨ret_i64 (tmod_pos (by omega) (by assumption)), rfl⟩
end Go.Proofs.Ytdcjhndcklofoaa
/- A walk over symbolic memory: less said of a contract; the end of a law; strings put together. No program in sight. -/
namespace Go.Proofs.Ytdcjhndcklofoaa
open Go.RowKit
set_option linter.unusedSimpArgs false
set_option linter.unusedVariables false
section
variable {P : Program} {f : FuncId} {H : List Hp} {args : List AV}
/-- A contract of which less is said. -/
theorem Spec.weak {Q Q2 : AV → List Hp → Prop} (h : Spec P f H args Q) (hq : ∀ r H', Q r H' → ∃ r2 H2, Weak H' [r] H2 [r2] ∧ Q2 r2 H2) : Spec P f H args Q2 := fun V w vs h1 h2 h3 =>
  (h V w vs h1 h2 h3).mono fun e w' ⟨r, H', v, q, he, hd, hok, hfr, hown⟩ => by
    obtain ⟨r2, H2, hw, q2⟩ := hq r H' q
    obtain ⟨k1, k2, k3⟩ := forgetL (vs := [v]) hok (by rw [DenL]; exact ⟨v, [], rfl, hd, by rw [DenL]⟩) hw
    have k2' := k2.get' 0 r2 v rfl rfl
    exact ⟨r2, H2, v, q2, he, k2', k1, hfr, fun x hx k hk => by
      obtain ⟨y, hy, e⟩ := k3 x hx k hk
      exact hown y hy k e⟩
/-- A law's walk, out of its contract. -/
theorem law_walk (h : Spec P f [] args (fun r H' => r = .x (.bool true) ∧ H' = [])) (W : World) (vs : Array Value) (hd : DenL (fun _ => False) W args vs.toList) : Calls P f vs W fun e w' => e = .returned (.bool true) ∧ Ext W w' := by
  have := h (fun _ => False) W vs.toList (fun _ h => h.elim) ⟨by simp, List.Pairwise.nil, by simp⟩ (hd.weak fun k hk => by rcases hk with hk | ⟨x, hx, _⟩; exact hk; cases hx)
  refine this.mono fun e w' ⟨r, H', v, ⟨hr, _⟩, he, hdv, _, hfr, _⟩ => ?_
  subst hr
  rw [Den] at hdv
  subst hdv
  refine ⟨he, Fr.ext ⟨hfr.os, hfr.tape, hfr.output, hfr.size, fun k hk hn => hfr.block k hk fun ⟨x, hx, _⟩ => by cases hx⟩⟩
end
theorem DenL.cons' {F : Nat → Prop} {W : World} {a : AV} {l : List AV} {v : Value} {vs : List Value} (h : Den F W a v) (k : DenL F W l vs) : DenL F W (a :: l) (v :: vs) := by rw [DenL]; exact ⟨v, vs, rfl, h, k⟩
theorem DenL.nil' {F : Nat → Prop} {W : World} : DenL F W [] [] := by rw [DenL]
theorem den_x {F : Nat → Prop} {W : World} (v : Value) : Den F W (.x v) v := by rw [Den]
theorem bs_of_data (s : ByteArray) : bs s.data.toList = s := by cases s; simp [bs]
theorem den_int {F : Nat → Prop} {W : World} (a : Int) : Den F W (.x (.int .i64 a)) (.int .i64 a) := den_x _
theorem den_str {F : Nat → Prop} {W : World} (s : ByteArray) : Den F W (.x (.string (bs s.data.toList))) (.string s) := by rw [bs_of_data]; exact den_x _
section
variable {P : Program} {o : Oper} {ρ : Operand → AV} {H : List Hp}
theorem bs_app (a b : List UInt8) : bs a ++ bs b = bs (a ++ b) := by
  apply ByteArray.ext
  simp [bs]
/-! Operations on memory that nobody writes, whose results hang on no memory. -/
theorem WInd_nil_at (x : Operand) (cells : List AV) (ho : o.op = .nilCheck x) (hx : ρ x = .at_ cells) : WInd P o ρ H (.at_ cells) := fun V a w r => by
  have hd := r.ops x (by simp [ho, Op.operands])
  rw [hx] at hd
  have hd' := hd
  rw [Den] at hd
  obtain ⟨b, off, vals, hv, _⟩ := hd
  exact ⟨a.eval x, fun w' => by rw [hv]; simp [execOp, ho, hv], hd'⟩
theorem WInd_field_at (s : TypeId) (x : Operand) (f k : Nat) (cells : List AV) (ho : o.op = .fieldAddr s x f) (hx : ρ x = .at_ cells) (hk : fldT P s f = some k) : WInd P o ρ H (.at_ (cells.drop k)) := fun V a w r => by
  have hd := r.ops x (by simp [ho, Op.operands])
  rw [hx, Den] at hd
  obtain ⟨b, off, vals, hv, hm, hl⟩ := hd
  exact ⟨.pointer (some ⟨b, off + k, none⟩), fun w' => by simp [execOp, ho, hv, run_fieldAt s f k hk], by rw [Den]; exact ⟨b, off + k, vals.drop k, rfl, hm.drop k, hl.drop k⟩⟩
theorem WInd_index_sq (t e : TypeId) (x y : Operand) (size n : Nat) (k : IntKind) (i : Int) (j : Nat) (cells : List AV) (ho : o.op = .indexAddr t x y) (hx : ρ x = .sq n cells) (hy : ρ y = .x (.int k i)) (ht : elT P t = some (e, size)) (hi : i = (j : Int)) (h1 : j < n) (hc : 0 < cells.length) : WInd P o ρ H (.at_ (cells.drop (j * size))) := by
  subst hi
  intro V a w r
  have hd := r.ops x (by simp [ho, Op.operands])
  rw [hx, Den] at hd
  obtain ⟨ad, cap, vals, hv, h2, h3, h4, hm, hl⟩ := hd
  have hm' := hm
  rcases hm with rfl | ⟨b, off, rfl, hb, hcl⟩
  · have := hl.len; simp at this; omega
  · refine ⟨.pointer (some ⟨b, off + j * size, none⟩), fun w' => by simp [execOp, ho, hv, r.evx (x := y) (by simp [ho, Op.operands]) hy, run_indexAt t e size ht b off n cap k j (by omega) (by omega)], ?_⟩
    rw [Den]
    exact ⟨b, _, vals.drop (j * size), rfl, hm'.drop (j * size), hl.drop (j * size)⟩
/-- Two strings, one after the other. -/
theorem Evl_concat {x y : Operand} (t t2 : TypeId) (a b : List UInt8) (ho : o.op = .binOp .add t x y t2) (hx : ρ x = .x (.string (bs a))) (hy : ρ y = .x (.string (bs b))) (hl : a.length + b.length ≤ 1000000000) : Evl P o ρ H (.x (.string (bs (a ++ b)))) := by
  apply Evl_x
  case hs => (intro cs b h; rw [ho] at h; cases h)
  case hx => simp [ho, Op.operands, hx, hy, AV.ex]
  case hrun =>
    intro w
    have h1 : (bs a).size = a.length := by simp [bs, ByteArray.size]
    have h2 : (bs b).size = b.length := by simp [bs, ByteArray.size]
    have h3 : (a.length : Int) + (b.length : Int) ≤ 9223372036854775807 := by omega
    simp [execOp, ho, hx, hy, AV.val, go_sem, Op.stringOp, h1, h2, h3, bs_app]
end
end Go.Proofs.Ytdcjhndcklofoaa
/- Rows of ints, of strings. -/
namespace Go.Proofs.Ytdcjhndcklofoaa
open Go.RowKit
set_option linter.unusedSimpArgs false
set_option linter.unusedVariables false
theorem take_snoc' {α : Type} (l : List α) (k : Nat) (h : k < l.length) : l.take (k + 1) = l.take k ++ [l[k]] := by
  rw [List.take_succ_eq_append_getElem h]
def sa (l : List (List UInt8)) : List AV := l.map fun s => .x (.string (bs s))
@[simp] theorem sa_len (l : List (List UInt8)) : (sa l).length = l.length := by simp [sa]
theorem sa_drop (l : List (List UInt8)) (k : Nat) (h : k < l.length) : (sa l).drop k = .x (.string (bs l[k])) :: sa (l.drop (k + 1)) := by
  rw [sa, ← List.map_drop, List.drop_eq_getElem_cons h]; rfl
theorem sa_app (l m : List (List UInt8)) : sa (l ++ m) = sa l ++ sa m := by simp [sa]
theorem u8a_one (v : Int) (h0 : 0 ≤ v) (h1 : v < 256) : u8a [UInt8.ofNat v.toNat] = [.x (.int .u8 v)] := by
  have e : (UInt8.ofNat v.toNat).toNat = v.toNat := by
    rw [UInt8.toNat_ofNat']
    exact Nat.mod_eq_of_lt (by omega)
  simp [u8a, u8s, e]
  omega
theorem Src.chr {ρ : Operand → AV} {H : List Hp} {x : Operand} (q : Nat) {ad : Option Addr} {cap : Nat} {e : TypeId} {size : Nat} (v : Int) (h0 : 0 ≤ v) (h1 : v < 256) (hx : ρ x = .x (.slice ad 1 cap)) (hq : H[q]? = some (.row ad 1 cap e size [.x (.int .u8 v)])) :
    Src ρ H x [UInt8.ofNat v.toNat].length (u8a [UInt8.ofNat v.toNat]) := by
  rw [u8a_one v h0 h1]; exact Src.row q hx hq
theorem u8a_app (l m : List UInt8) : u8a (l ++ m) = u8a l ++ u8a m := by simp [u8a, u8s]
theorem u8a_cons (b : UInt8) (l : List UInt8) : u8a (b :: l) = .x (.int .u8 (b.toNat : Nat)) :: u8a l := by simp [u8a, u8s]
theorem u8a_nil : u8a [] = [] := rfl
end Go.Proofs.Ytdcjhndcklofoaa
/- The mill: a deck of numbers (XGr1's part, for seats that have XBits). -/
namespace Go.Proofs.Ytdcjhndcklofoaa
open Go.RowKit
set_option linter.unusedSimpArgs false
set_option linter.unusedVariables false
def ia (l : List Int) : List AV := l.map fun n => .x (.int .i64 n)
@[simp] theorem ia_len (l : List Int) : (ia l).length = l.length := by simp [ia]
theorem ia_drop (l : List Int) (k : Nat) (h : k < l.length) : (ia l).drop k = .x (.int .i64 l[k]) :: ia (l.drop (k + 1)) := by
  rw [ia, ← List.map_drop, List.drop_eq_getElem_cons h]; rfl
/-- A deck of numbers. -/
def deck (b : Nat) (l : List Int) (k : Nat) : Hp := .box b [.sq l.length (ia l), .x (.int .i64 k)]
set_option maxRecDepth 100000 in
set_option maxHeartbeats 8000000 in
theorem left_spec (b : Nat) (l : List Int) (k : Nat) (hl : l.length ≤ 140737488355328) : Spec Try.prog 13 [deck b l k] [.x (.pointer (some ⟨b, 0, none⟩))] (fun r H' => r = .x (.bool (decide (k < l.length))) ∧ H' = [deck b l k]) := by
  unfold deck
  refine Spec_of Try.func13 rfl ?_
  simp only [Try.ntmps13, List.length_cons, List.length_nil, List.replicate_succ, List.replicate_zero, List.cons_append, List.nil_append, Nat.reduceAdd, Nat.reduceSub]
  (repeat' (first | with_reducible (first | refine awp_seq ?_ | refine awp_region ?_ | refine awp_ret ?_ | refine awpL_nil ?_ | refine dr_nil ?_ | refine thenA_normal ?_) | (with_reducible refine awp_drawnQ mixed ?_ ?_; (decide +kernel)) | ((first | apply awpL_evl2 rfl | apply dr_evl2 rfl); (case h => ((try (intro (hp : (_ : Bool) = true); ((try simp only [Bool.and_eq_true, Bool.not_eq_true', Bool.not_eq_true] at hp); (try simp only [hp, wte]); (try simp only [whn] at hp)))); (first | (apply Evl_k 0 rfl; (first | exact Evl_mv _ rfl | exact Evl_as _ rfl)) | (apply Evl_k 3 rfl; (exact Evl_len _ _ _ _ _ _ HEl.out rfl rfl)) | (apply Evl_k 4 rfl; (exact Evl_nil _ rfl (by first | exact .inl ⟨_, rfl⟩ | fail))) | (apply Evl_k 5 rfl; (exact Evl_field_x _ _ _ _ _ _ rfl rfl HFld.out)) | (apply Evl_k 6 rfl; (exact Evl_load _ _ _ _ _ _ _ _ rfl rfl FBox.out HAgg.out (by first | exact Nat.le_of_ble_eq_true rfl | fail) (by first | exact Nat.le_of_ble_eq_true rfl | fail))) | (apply Evl_x; (case hs => (intro _ _ h; cases h)); (case hx => rfl); (case hrun => (intro w; simp [wtb, AV.val, go_sem]; (try go_bits); rfl)))))); (case hT => ((try simp only [wtn, List.append_eq, List.foldl_cons, List.foldl_nil, List.map_cons, List.map_nil, Nat.reduceAdd, Nat.reduceMul, Nat.reduceSub, ↓reduceIte, Nat.reduceEqDiff]); rfl))) | fail))
  refine endA_ret _ _ (Res1 rfl (RV.tmp _) (Weak.mk' [] _ (List.Perm.refl _) (VwHs.refl _ _) (VwL.refl _ _))) ?_
  exact ⟨rfl, rfl⟩
theorem mod_spec (v n : Int) (hn : 1 ≤ n) (hn2 : n ≤ 9223372036854775807) (hv : -9223372036854775808 ≤ v ∧ v ≤ 9223372036854775807) (H : List Hp) : Spec Try.prog 28 H [.x (.int .i64 v), .x (.int .i64 n)] (fun r H' => r = .x (.int .i64 (v % n)) ∧ H' = H) :=
  Spec_calls (args := [.int .i64 v, .int .i64 n]) (fun w => (mod_any v n w hn hn2 hv.1 hv.2).mono fun e w' ⟨h1, h2⟩ => ⟨h1, h2 ▸ Below.refl _ _⟩) H
def nextv (l : List Int) (k : Nat) (n : Nat) : Int := if h : k < l.length then l[k] % n else 0
def I64 (l : List Int) : Prop := ∀ x ∈ l, -9223372036854775808 ≤ x ∧ x ≤ 9223372036854775807
set_option maxRecDepth 100000 in
set_option maxHeartbeats 8000000 in
theorem next_spec (b : Nat) (l : List Int) (k n : Nat) (hl : l.length ≤ 140737488355328) (hk : k ≤ l.length) (hn : 1 ≤ n) (hn2 : n ≤ 1000000) (hI : I64 l) : Spec Try.prog 14 [deck b l k] [.x (.pointer (some ⟨b, 0, none⟩)), .x (.int .i64 n)] (fun r H' => r = .x (.int .i64 (nextv l k n)) ∧ H' = [deck b l (min (k + 1) l.length)]) := by
  have hI := Lib.hid hI
  have hd : deck b l k = .box b [.sq l.length (ia l), .x (.int .i64 k)] := rfl
  rw [hd]
  refine Spec_of Try.func14 rfl ?_
  simp only [Try.ntmps14, List.length_cons, List.length_nil, List.replicate_succ, List.replicate_zero, List.cons_append, List.nil_append, Nat.reduceAdd, Nat.reduceSub]
  (repeat' (first | with_reducible (first | refine awp_seq ?_ | refine awp_region ?_ | refine awp_ret ?_ | refine awp_skip ?_ | refine awpL_nil ?_ | refine dr_nil ?_ | refine thenA_normal ?_ | refine thenA_ret ?_) | (with_reducible refine awp_drawnQ mixed ?_ ?_; (decide +kernel)) | (refine awp_cond _ rfl (fun h => ?_) (fun h => ?_) <;> ((try (simp only [whn] at h)); skip)) | ((first | apply awpL_evl2 rfl | apply dr_evl2 rfl); (case h => ((try (intro (hp : (_ : Bool) = true); ((try simp only [Bool.and_eq_true, Bool.not_eq_true', Bool.not_eq_true] at hp); (try simp only [hp, wte]); (try simp only [whn] at hp)))); (first | (apply Evl_k 0 rfl; (first | exact Evl_mv _ rfl | exact Evl_as _ rfl)) | (apply Evl_k 4 rfl; (exact Evl_nil _ rfl (by first | exact .inl ⟨_, rfl⟩ | fail))) | (apply Evl_k 5 rfl; (exact Evl_field_x _ _ _ _ _ _ rfl rfl HFld.out)) | (apply Evl_k 6 rfl; (first | exact Evl_load_at _ _ _ _ _ rfl rfl HAgg.out (by first | exact Nat.le_of_ble_eq_true rfl | fail) (by first | exact Nat.le_of_ble_eq_true rfl | fail) | exact Evl_load _ _ _ _ _ _ _ _ rfl rfl FBox.out HAgg.out (by first | exact Nat.le_of_ble_eq_true rfl | fail) (by first | exact Nat.le_of_ble_eq_true rfl | fail))) | (apply Evl_k 7 rfl; (exact Evl_index_sq _ _ _ _ _ _ _ _ _ _ rfl rfl rfl HEl.out rfl (by first | omega | fail) (by simp; first | omega | fail))) | (apply Evl_k 11 rfl; (exact Evl_call 28 Try.f28 _ _ rfl rfl Try.func28 (by decide) rfl (VwL.refl _ _) (mod_spec _ _ (by omega) (by omega) (hI.out _ (List.getElem_mem _)) []))) | (apply Evl_x; (case hs => (intro _ _ h; cases h)); (case hx => rfl); (case hrun => (intro w; simp [wtb, AV.val, go_sem]; (try go_bits); rfl)))))); (case hT => ((try simp (disch := assumption) only [wtn, deck, ia_drop, List.append_eq, List.foldl_cons, List.foldl_nil, List.map_cons, List.map_nil, Nat.reduceAdd, Nat.reduceMul, Nat.reduceSub, ↓reduceIte, Nat.reduceEqDiff]); rfl))) | (refine awpL_cons rfl ?_; ((first | (refine Stp_k 11 rfl ?_; ((refine Stp_call 13 Try.f13 ([deck b l k]) _ _ _ rfl rfl Try.func13 (by decide) rfl (List.Perm.refl _) (VwL.refl _ _) (left_spec b l k hl) ?_; rintro _ _ ⟨rfl, rfl⟩))) | (refine Stp_k 16 rfl ?_; ((refine Stp_store _ _ _ _ _ _ _ rfl rfl FBox.out HSize.out (by first | rfl | fail) (by first | exact Nat.le_of_ble_eq_true rfl | fail) ?_)))); apply awpL_cong; (case hT => ((try simp (disch := omega) only [wtn, deck, ia_drop, List.append_eq, List.foldl_cons, List.foldl_nil, List.map_cons, List.map_nil, Nat.reduceAdd, Nat.reduceMul, Nat.reduceSub, ↓reduceIte, Nat.reduceEqDiff]); rfl)); (case hH => ((try simp (disch := omega) only [wtn, deck, ia_drop, List.append_eq, List.foldl_cons, List.foldl_nil, List.map_cons, List.map_nil, Nat.reduceAdd, Nat.reduceMul, Nat.reduceSub, ↓reduceIte, Nat.reduceEqDiff]); rfl)))) | fail))
  · refine endA_ret _ _ (Res1 rfl (RV.tmp _) (Weak.mk' [] _ (List.Perm.refl _) (VwHs.refl _ _) (VwL.refl _ _))) ?_
    exact ⟨by rw [nextv, dif_neg h]; rfl, by rw [show min (k + 1) l.length = k from by omega]; rfl⟩
  · refine endA_ret _ _ (Res1 rfl (RV.tmp _) (Weak.mk' [] _ (List.Perm.refl _) (VwHs.refl _ _) (VwL.refl _ _))) ?_
    exact ⟨by rw [nextv, dif_pos h]; rfl, by rw [show min (k + 1) l.length = k + 1 from by omega]; rfl⟩
end Go.Proofs.Ytdcjhndcklofoaa
/- The graph: Has, Index, the deck of numbers. -/
namespace Go.Proofs.Ytdcjhndcklofoaa
open Go.RowKit
set_option linter.unusedSimpArgs false
set_option linter.unusedVariables false
set_option maxRecDepth 100000 in
set_option maxHeartbeats 8000000 in
theorem has_spec (l : List Int) (n : Int) (hl : l.length ≤ 1000000) : Spec Try.prog 19 [] [.sq l.length (ia l), .x (.int .i64 n)] (fun r H' => r = .x (.bool (decide (n ∈ l))) ∧ H' = []) := by
  refine Spec_of Try.func19 rfl ?_
  simp only [Try.ntmps19, List.length_cons, List.length_nil, List.replicate_succ, List.replicate_zero, List.cons_append, List.nil_append, Nat.reduceAdd, Nat.reduceSub]
  (repeat' (first | with_reducible (first | refine awp_seq ?_ | refine awp_region ?_ | refine awp_block ?_ | refine awpL_nil ?_ | refine thenA_normal ?_) | ((apply awpL_evl2 rfl); (case h => ((try (intro (hp : (_ : Bool) = true); ((try simp only [Bool.and_eq_true, Bool.not_eq_true', Bool.not_eq_true] at hp); (try simp only [hp, wte]); (try simp only [whn] at hp)))); ((apply Evl_k 0 rfl; (exact Evl_as _ rfl))))); (case hT => ((try simp only [wtn, List.append_eq, List.foldl_cons, List.foldl_nil, List.map_cons, List.map_nil, Nat.reduceAdd, Nat.reduceMul, Nat.reduceSub, ↓reduceIte, Nat.reduceEqDiff]); rfl))) | fail))
  refine awp_loopS (S := Nat) (fun k => frm 18 [(0, .sq l.length (ia l)), (1, .x (.int .i64 n)), (5, .x (.int .i64 k))]) (fun _ => []) (fun k => k ≤ l.length ∧ n ∉ l.take k) (fun k => l.length - k) 0 (Weak.mk' [] _ (List.Perm.refl _) (VwHs.refl _ _) (by (repeat' (first | exact VwL.nil | (refine VwL.cons ?_ ?_) | exact Vw.refl _ | exact Vw.top _ | fail)))) ⟨Nat.zero_le _, by simp⟩ fun k hk => ?_
  simp only [frm, List.replicate_succ, List.replicate_zero, List.foldl_cons, List.foldl_nil, List.set_cons_zero, List.set_cons_succ]
  obtain ⟨hk, hn⟩ := hk
  (repeat' (first | with_reducible (first | refine awp_seq ?_ | refine awp_region ?_ | refine awp_block ?_ | refine awp_ret ?_ | refine awp_skip ?_ | refine awp_exit ?_ | refine awpL_nil ?_ | refine thenA_normal ?_ | refine thenA_exit ?_ | refine thenA_ret ?_ | refine inBlockA_eq ?_ | refine inBlockA_normal ?_ | refine inBlockA_ret ?_) | (refine awp_cond _ rfl (fun h => ?_) (fun h => ?_) <;> ((try (simp only [whn] at h)); skip)) | ((apply awpL_evl2 rfl); (case h => ((try (intro (hp : (_ : Bool) = true); ((try simp only [Bool.and_eq_true, Bool.not_eq_true', Bool.not_eq_true] at hp); (try simp only [hp, wte]); (try simp only [whn] at hp)))); (first | (apply Evl_k 0 rfl; (first | exact Evl_mv _ rfl | exact Evl_as _ rfl)) | (apply Evl_k 3 rfl; (exact Evl_len _ _ _ _ _ _ HEl.out rfl rfl)) | (apply Evl_k 6 rfl; (exact Evl_load_at _ _ _ _ _ rfl rfl HAgg.out (by first | exact Nat.le_of_ble_eq_true rfl | fail) (by first | exact Nat.le_of_ble_eq_true rfl | fail))) | (apply Evl_k 7 rfl; (exact Evl_index_sq _ _ _ _ _ _ _ _ _ _ rfl rfl rfl HEl.out rfl (by first | omega | fail) (by simp; first | omega | fail))) | (apply Evl_x; (case hs => (intro _ _ h; cases h)); (case hx => rfl); (case hrun => (intro w; simp [wtb, AV.val, go_sem]; (try go_bits); rfl)))))); (case hT => ((try simp (disch := assumption) only [wtn, ia_drop, List.append_eq, List.foldl_cons, List.foldl_nil, List.map_cons, List.map_nil, Nat.reduceAdd, Nat.reduceMul, Nat.reduceSub, ↓reduceIte, Nat.reduceEqDiff]); rfl))) | fail))
  · refine endA_ret _ _ (Res1 rfl (RV.tmp _) (Weak.mk' [] _ (List.Perm.refl _) (VwHs.refl _ _) (VwL.refl _ _))) ?_
    exact ⟨by simp [ev, ← h], rfl⟩
  · exact ⟨k + 1, by omega, ⟨by omega, by rw [take_snoc' l k (by assumption)]; simp only [List.mem_append, List.mem_singleton, not_or]; exact ⟨hn, fun e => h e.symm⟩⟩, (Weak.mk' [] _ (List.Perm.refl _) (VwHs.refl _ _) (by (repeat' (first | exact VwL.nil | (refine VwL.cons ?_ ?_) | exact Vw.refl _ | exact Vw.top _ | fail))))⟩
  · refine endA_ret _ _ (Res1 rfl (RV.tmp _) (Weak.mk' [] _ (List.Perm.refl _) (VwHs.refl _ _) (VwL.refl _ _))) ?_
    rw [List.take_of_length_le (by omega)] at hn
    exact ⟨by simp [ev, hn], rfl⟩
/-- A job, as far as the graph sees it: its name, its needs; and its other cells. -/
structure JA where
  name : List UInt8
  needs : List (List UInt8)
  o : Nat → AV
  one : ∀ i, (o i).one = true
def JA.cells (j : JA) : List AV := [.x (.string (bs j.name)), j.o 1, j.o 2, .sq j.needs.length (sa j.needs), j.o 4, j.o 5, j.o 6, j.o 7, j.o 8, j.o 9, j.o 10, j.o 11, j.o 12, j.o 13, j.o 14]
def ja (l : List JA) : List AV := l.flatMap JA.cells
@[simp] theorem ja_len (l : List JA) : (ja l).length = l.length * 15 := by
  induction l with
  | nil => rfl
  | cons j l ih => simp only [ja, List.flatMap_cons, List.length_append, List.length_cons] at ih ⊢; rw [ih]; simp [JA.cells]; omega
theorem ja_drop (l : List JA) (k : Nat) (h : k < l.length) : (ja l).drop (k * 15) = l[k].cells ++ ja (l.drop (k + 1)) := by
  induction l generalizing k with
  | nil => simp at h
  | cons j l ih =>
    have hc : j.cells.length = 15 := rfl
    cases k with
    | zero => simp [ja]
    | succ k =>
      simp only [ja, List.flatMap_cons, List.drop_succ_cons, List.getElem_cons_succ] at ih ⊢
      rw [show (k + 1) * 15 = 15 + k * 15 from by omega, ← List.drop_drop, List.drop_append_of_le_length (by omega), show j.cells.drop 15 = [] from rfl, List.nil_append]
      exact ih k (by simpa using h)
/-- The place of the first job with a name. -/
def idx (l : List JA) (s : List UInt8) : Int := match l.findIdx? fun j => j.name == s with | some k => k | none => -1
theorem idx_some {l : List JA} {s : List UInt8} {k : Nat} (hk : k < l.length) (hn : ∀ j ∈ l.take k, j.name ≠ s) (h : l[k].name = s) : idx l s = k := by
  unfold idx
  have : l.findIdx? (fun j => j.name == s) = some k := by
    rw [List.findIdx?_eq_some_iff_getElem]
    refine ⟨hk, by simp [h], fun j hj => ?_⟩
    have := hn l[j] (List.mem_iff_getElem.2 ⟨j, by simp; omega, by simp⟩)
    simp [this]
  rw [this]
theorem idx_none {l : List JA} {s : List UInt8} (hn : ∀ j ∈ l, j.name ≠ s) : idx l s = -1 := by
  unfold idx
  have : l.findIdx? (fun j => j.name == s) = none := by
    rw [List.findIdx?_eq_none_iff]
    intro j hj; simp [hn j hj]
  rw [this]
set_option maxRecDepth 100000 in
set_option maxHeartbeats 8000000 in
theorem rindex_spec (l : List JA) (s : List UInt8) (hl : l.length ≤ 1000000) : Spec Try.prog 37 [] [.sq l.length (ja l), .x (.string (bs s))] (fun r H' => r = .x (.int .i64 (idx l s)) ∧ H' = []) := by
  refine Spec_of Try.func37 rfl ?_
  simp only [Try.ntmps37, List.length_cons, List.length_nil, List.replicate_succ, List.replicate_zero, List.cons_append, List.nil_append, Nat.reduceAdd, Nat.reduceSub]
  (repeat' (first | with_reducible (first | refine awp_seq ?_ | refine awp_region ?_ | refine awp_block ?_ | refine awpL_nil ?_ | refine thenA_normal ?_) | ((apply awpL_evl2 rfl); (case h => ((try (intro (hp : (_ : Bool) = true); ((try simp only [Bool.and_eq_true, Bool.not_eq_true', Bool.not_eq_true] at hp); (try simp only [hp, wte]); (try simp only [whn] at hp)))); ((apply Evl_k 0 rfl; (exact Evl_as _ rfl))))); (case hT => ((try simp only [wtn, List.append_eq, List.foldl_cons, List.foldl_nil, List.map_cons, List.map_nil, Nat.reduceAdd, Nat.reduceMul, Nat.reduceSub, ↓reduceIte, Nat.reduceEqDiff]); rfl))) | fail))
  refine awp_loopS (S := Nat) (fun k => frm 20 [(0, .sq l.length (ja l)), (1, .x (.string (bs s))), (5, .x (.int .i64 k))]) (fun _ => []) (fun k => k ≤ l.length ∧ ∀ j ∈ l.take k, j.name ≠ s) (fun k => l.length - k) 0 (Weak.mk' [] _ (List.Perm.refl _) (VwHs.refl _ _) (by (repeat' (first | exact VwL.nil | (refine VwL.cons ?_ ?_) | exact Vw.refl _ | exact Vw.top _ | fail)))) ⟨Nat.zero_le _, by simp⟩ fun k hk => ?_
  simp only [frm, List.replicate_succ, List.replicate_zero, List.foldl_cons, List.foldl_nil, List.set_cons_zero, List.set_cons_succ]
  obtain ⟨hk, hn⟩ := hk
  have hn := Lib.hid hn
  (repeat' (first | with_reducible (first | refine awp_seq ?_ | refine awp_region ?_ | refine awp_block ?_ | refine awp_ret ?_ | refine awp_skip ?_ | refine awp_exit ?_ | refine awpL_nil ?_ | refine thenA_normal ?_ | refine thenA_exit ?_ | refine thenA_ret ?_ | refine inBlockA_eq ?_ | refine inBlockA_normal ?_ | refine inBlockA_ret ?_) | (refine awp_cond _ rfl (fun h => ?_) (fun h => ?_) <;> ((try (simp only [whn] at h)); skip)) | ((apply awpL_evl2 rfl); (case h => ((try (intro (hp : (_ : Bool) = true); ((try simp only [Bool.and_eq_true, Bool.not_eq_true', Bool.not_eq_true] at hp); (try simp only [hp, wte]); (try simp only [whn] at hp)))); (first | (apply Evl_k 0 rfl; (first | exact Evl_mv _ rfl | exact Evl_as _ rfl)) | (apply Evl_k 3 rfl; (exact Evl_len _ _ _ _ _ _ HEl.out rfl rfl)) | (apply Evl_k 5 rfl; (exact Evl_field_at _ _ _ _ _ rfl rfl HFld.out)) | (apply Evl_k 6 rfl; (exact Evl_load_at _ _ _ _ _ rfl rfl HAgg.out (by first | exact Nat.le_of_ble_eq_true rfl | fail) (by first | exact Nat.le_of_ble_eq_true rfl | fail))) | (apply Evl_k 7 rfl; (exact Evl_index_sq _ _ _ _ _ _ _ _ _ _ rfl rfl rfl HEl.out rfl (by first | omega | fail) (by simp; first | omega | fail))) | (apply Evl_x; (case hs => (intro _ _ h; cases h)); (case hx => rfl); (case hrun => (intro w; simp [wtb, AV.val, go_sem]; (try go_bits); rfl)))))); (case hT => ((try simp (disch := assumption) only [wtn, ja_drop, JA.cells, List.append_eq, List.foldl_cons, List.foldl_nil, List.map_cons, List.map_nil, Nat.reduceAdd, Nat.reduceMul, Nat.reduceSub, ↓reduceIte, Nat.reduceEqDiff]); rfl))) | fail))
  · refine endA_ret _ _ (Res1 rfl (RV.tmp _) (Weak.mk' [] _ (List.Perm.refl _) (VwHs.refl _ _) (VwL.refl _ _))) ?_
    exact ⟨by rw [idx_some (by assumption) hn.out h]; rfl, rfl⟩
  · exact ⟨k + 1, by omega, ⟨by omega, by rw [take_snoc' l k (by assumption)]; intro j hj; simp only [List.mem_append, List.mem_singleton] at hj; rcases hj with hj | rfl; exact hn.out j hj; exact h⟩, (Weak.mk' [] _ (List.Perm.refl _) (VwHs.refl _ _) (by (repeat' (first | exact VwL.nil | (refine VwL.cons ?_ ?_) | exact Vw.refl _ | exact Vw.top _ | fail))))⟩
  · refine endA_ret _ _ (Res1 rfl (RV.tmp _) (Weak.mk' [] _ (List.Perm.refl _) (VwHs.refl _ _) (VwL.refl _ _))) ?_
    have hn := hn.out
    rw [List.take_of_length_le (by omega)] at hn
    exact ⟨by rw [idx_none hn]; rfl, rfl⟩
end Go.Proofs.Ytdcjhndcklofoaa
