import Derived.Test.YtfokgdmlecnpbaaW29
import Derived.Test.YtfokgdmlecnpbaaW18
/- The reference's parser: a token taken, a sign, a number. -/
namespace Go.Proofs.Ytfokgdmlecnpbaa
open Go.RowKit
set_option linter.unusedSimpArgs false
set_option linter.unusedVariables false
/-- The last token is the end, and no other. -/
def VT (ts : List Tok) : Prop := ∀ k, (h : k < ts.length) → ts[k].kind ≠ 6 → k + 1 < ts.length
set_option maxRecDepth 100000 in
set_option maxHeartbeats 8000000 in
theorem fail_s (b : Nat) (ts : List Tok) (k : Nat) (e l c : Int) (sv : AV) (hsv : sv.one = true) (e2 : Int) (t : Tok) : Spec Try.prog 46 [.box b (pc ts k e l c sv)] [.x (.pointer (some ⟨b, 0, none⟩)), .x (.int .i64 e2), t.av] (fun r H' => ∃ e' l' c', r = .x (.tuple #[]) ∧ H' = [.box b (pc ts k e' l' c' sv)] ∧ e' = if e = 0 then e2 else e) := by
  unfold Tok.av
  simp only [pc]
  refine Spec_of Try.func46 rfl ?_
  simp only [Try.ntmps46, List.length_cons, List.length_nil, List.replicate_succ, List.replicate_zero, List.cons_append, List.nil_append, Nat.reduceAdd, Nat.reduceSub]
  (repeat' (first | with_reducible (first | refine awp_seq ?_ | refine awp_region ?_ | refine awp_skip ?_ | refine awpL_nil ?_ | refine thenA_normal ?_) | (refine awp_cond _ rfl (fun h => ?_) (fun h => ?_) <;> ((try (simp only [whn] at h)); skip)) | ((apply awpL_evl2 rfl); (case h => ((try (intro (hp : (_ : Bool) = true); ((try simp only [Bool.and_eq_true, Bool.not_eq_true', Bool.not_eq_true] at hp); (try simp only [hp, wte]); (try simp only [whn] at hp)))); (first | (apply Evl_k 0 rfl; (exact Evl_mv _ rfl)) | (apply Evl_k 4 rfl; (exact Evl_nil _ rfl (by first | exact .inl ⟨_, rfl⟩ | fail))) | (apply Evl_k 5 rfl; (exact Evl_field_x _ _ _ _ _ _ rfl rfl HFld.out)) | (apply Evl_k 6 rfl; (exact Evl_load _ _ _ _ _ _ _ _ rfl rfl FBox.out HAgg.out (by first | exact Nat.le_of_ble_eq_true rfl | fail) (by first | exact Nat.le_of_ble_eq_true rfl | fail))) | (apply Evl_k 10 rfl; (exact Evl_build _ _ _ _ _ rfl HPl.out (by first | rfl | fail) rfl)) | (apply Evl_x; (case hs => (intro _ _ h; cases h)); (case hx => rfl); (case hrun => (intro w; simp [wtb, AV.val, go_sem]; (try go_bits); rfl)))))); (case hT => ((try simp only [wtn, List.append_eq, List.foldl_cons, List.foldl_nil, List.map_cons, List.map_nil, Nat.reduceAdd, Nat.reduceMul, Nat.reduceSub, ↓reduceIte, Nat.reduceEqDiff]); rfl))) | (refine awpL_cons rfl ?_; ((first | (refine Stp_k 15 rfl ?_; ((refine Stp_box _ _ rfl (by first | rfl | fail) (fun b => ?_)))) | (refine Stp_k 16 rfl ?_; ((refine Stp_store _ _ _ _ _ _ _ rfl rfl FBox.out HSize.out (by first | rfl | fail) (by first | exact Nat.le_of_ble_eq_true rfl | fail) ?_)))); apply awpL_cong; (case hT => ((try simp only [wtn, List.append_eq, List.foldl_cons, List.foldl_nil, List.map_cons, List.map_nil, Nat.reduceAdd, Nat.reduceMul, Nat.reduceSub, ↓reduceIte, Nat.reduceEqDiff]); rfl)); (case hH => ((try simp only [wtn, List.append_eq, List.foldl_cons, List.foldl_nil, List.map_cons, List.map_nil, Nat.reduceAdd, Nat.reduceMul, Nat.reduceSub, ↓reduceIte, Nat.reduceEqDiff]); rfl)))) | fail))
  · refine endA_normal _ _ (Res0 rfl (Weak.mk' [_] [_] (List.Perm.refl _) (VwHs.refl _ _) VwL.nil)) ?_
    exact ⟨_, _, _, rfl, rfl, by rw [if_pos h]⟩
  · refine endA_normal _ _ (Res0 rfl (Weak.mk' [_] [_] (List.Perm.refl _) (VwHs.refl _ _) VwL.nil)) ?_
    exact ⟨_, _, _, rfl, rfl, by rw [if_neg h]⟩
/-- The fault only comes; the place only goes on. -/
structure St (ts : List Tok) (k : Nat) (e : Int) (k' : Nat) (e' : Int) : Prop where
  le : k ≤ k'
  lt : k' < ts.length
  bad : e' = 0 → e = 0
set_option maxRecDepth 100000 in
set_option maxHeartbeats 8000000 in
theorem take_s (b : Nat) (ts : List Tok) (k : Nat) (e l c : Int) (sv : AV) (hsv : sv.one = true) (kind most : Int) (hk : k < ts.length) (hl : ts.length ≤ 1000000) (hv : VT ts) (hkd : kind ≠ 6) :
    Spec Try.prog 47 [.box b (pc ts k e l c sv)] [.x (.pointer (some ⟨b, 0, none⟩)), .x (.int .i64 kind), .x (.int .i64 most)] (fun r H' => ∃ k' e' l' c', r = ts[k].av ∧ H' = [.box b (pc ts k' e' l' c' sv)] ∧ St ts k e k' e' ∧ (e' = 0 → k' = k + 1 ∧ ts[k].kind = kind ∧ (ts[k].text.length : Int) ≤ most)) := by
  have hn := now_s ts k e l c sv hk hl
  have hf := failed_s ts k e l c sv
  have hF1 := fail_s b ts k e l c sv hsv 60 ts[k]
  have hF2 := fail_s b ts k e l c sv hsv 1 ts[k]
  have hvk := hv k hk
  unfold Tok.av at hn hF1 hF2 ⊢
  simp only [pc]
  refine Spec_of Try.func47 rfl ?_
  simp only [Try.ntmps47, List.length_cons, List.length_nil, List.replicate_succ, List.replicate_zero, List.cons_append, List.nil_append, Nat.reduceAdd, Nat.reduceSub]
  (repeat' (first | with_reducible (first | refine awp_seq ?_ | refine awp_region ?_ | refine awp_ret ?_ | refine awp_skip ?_ | refine awpL_nil ?_ | refine thenA_normal ?_ | refine thenA_ret ?_) | (refine awp_cond _ rfl (fun h => ?_) (fun h => ?_) <;> ((try (simp only [whn] at h)); skip)) | ((apply awpL_evl2 rfl); (case h => ((try (intro (hp : (_ : Bool) = true); ((try simp only [Bool.and_eq_true, Bool.not_eq_true', Bool.not_eq_true] at hp); (try simp only [hp, wte]); (try simp only [whn] at hp)))); (first | (apply Evl_k 0 rfl; (exact Evl_mv _ rfl)) | (apply Evl_k 4 rfl; (exact Evl_nil _ rfl (by first | exact .inl ⟨_, rfl⟩ | fail))) | (apply Evl_k 5 rfl; (exact Evl_field_x _ _ _ _ _ _ rfl rfl HFld.out)) | (apply Evl_k 6 rfl; (exact Evl_load _ _ _ _ _ _ _ _ rfl rfl FBox.out HAgg.out (by first | exact Nat.le_of_ble_eq_true rfl | fail) (by first | exact Nat.le_of_ble_eq_true rfl | fail))) | (apply Evl_k 11 rfl; (first | exact Evl_callL 32 Try.f32 _ _ rfl rfl Try.func32 (by decide) rfl (by (repeat' (first | exact VwL.nil | (refine VwL.cons ?_ ?_) | exact Vw.box (List.Mem.tail _ (List.Mem.head _)) (VwL.refl _ _) | fail)); done) (hn) | exact Evl_callL 34 Try.f34 _ _ rfl rfl Try.func34 (by decide) rfl (by (repeat' (first | exact VwL.nil | (refine VwL.cons ?_ ?_) | exact Vw.box (List.Mem.tail _ (List.Mem.tail _ (List.Mem.head _))) (VwL.refl _ _) | fail)); done) (hf))) | (apply Evl_x; (case hs => (intro _ _ h; cases h)); (case hx => rfl); (case hrun => (intro w; simp [wtb, AV.val, go_sem]; (try go_bits); rfl)))))); (case hT => ((try simp (disch := omega) only [wtn, pc, List.append_eq, List.foldl_cons, List.foldl_nil, List.map_cons, List.map_nil, Nat.reduceAdd, Nat.reduceMul, Nat.reduceSub, ↓reduceIte, Nat.reduceEqDiff]); rfl))) | (refine awpL_cons rfl ?_; ((first | (refine Stp_k 11 rfl ?_; (first | (refine Stp_call 46 Try.f46 [_] [_, _] _ _ rfl rfl Try.func46 (by decide) rfl (List.perm_middle (l₁ := [_, _]) (l₂ := [])) (VwL.refl _ _) hF1 ?_; rintro _ _ ⟨e', l', c', rfl, rfl, he'⟩) | (refine Stp_call 46 Try.f46 [_] [_, _] _ _ rfl rfl Try.func46 (by decide) rfl (List.perm_middle (l₁ := [_, _]) (l₂ := [])) (VwL.refl _ _) hF2 ?_; rintro _ _ ⟨e', l', c', rfl, rfl, he'⟩))) | (refine Stp_k 14 rfl ?_; ((refine Stp_alloc _ _ rfl HZero.out rfl (fun b => ?_)))) | (refine Stp_k 16 rfl ?_; ((refine Stp_store _ _ _ _ _ _ _ rfl rfl FBox.out HSize.out (by first | rfl | fail) (by first | exact Nat.le_of_ble_eq_true rfl | fail) ?_)))); apply awpL_cong; (case hT => ((try simp (disch := omega) only [wtn, pc, List.append_eq, List.foldl_cons, List.foldl_nil, List.map_cons, List.map_nil, Nat.reduceAdd, Nat.reduceMul, Nat.reduceSub, ↓reduceIte, Nat.reduceEqDiff]); rfl)); (case hH => ((try simp (disch := omega) only [wtn, pc, List.append_eq, List.foldl_cons, List.foldl_nil, List.map_cons, List.map_nil, Nat.reduceAdd, Nat.reduceMul, Nat.reduceSub, ↓reduceIte, Nat.reduceEqDiff]); rfl)))) | fail))
  all_goals first
    | refine endA_ret _ _ (Res1 rfl (RV.cell 1 rfl rfl HAgg.out (by simp) (by simp)) (Weak.mk' [_, _] [_] (List.Perm.refl _) (VwHs.refl _ _) (VwL.refl _ _))) ?_
    | refine endA_ret _ _ (Res1 rfl (RV.cell 2 rfl rfl HAgg.out (by simp) (by simp)) (Weak.mk' [_, _] [_] (List.perm_middle (l₁ := [_, _]) (l₂ := [])).symm (VwHs.refl _ _) (VwL.refl _ _))) ?_
  all_goals
    refine ⟨_, _, _, _, rfl, rfl, ⟨?_, ?_, ?_⟩, ?_⟩
  all_goals first
    | omega
    | exact hvk (by omega)
    | (intro h0; exfalso; omega)
    | (intro h0; exfalso; simp only [show e = 0 by omega, if_true] at he'; omega)
    | (intro h0; refine ⟨?_, ?_, ?_⟩ <;> first | rfl | omega | fail)
set_option maxRecDepth 100000 in
set_option maxHeartbeats 8000000 in
theorem sign_s (b : Nat) (ts : List Tok) (k : Nat) (e l c : Int) (sv : AV) (hsv : sv.one = true) (s : List UInt8) (hk : k < ts.length) (hl : ts.length ≤ 1000000) (hv : VT ts) :
    Spec Try.prog 48 [.box b (pc ts k e l c sv)] [.x (.pointer (some ⟨b, 0, none⟩)), .x (.string (bs s))] (fun r H' => ∃ k' e' l' c', r = .x (.tuple #[]) ∧ H' = [.box b (pc ts k' e' l' c' sv)] ∧ St ts k e k' e' ∧ (e' = 0 → k' = k + 1)) := by
  have hn := now_s ts k e l c sv hk hl
  have hf := failed_s ts k e l c sv
  have hi := is_s ts k e l c sv 5 s hk hl
  have hF := fail_s b ts k e l c sv hsv 60 ts[k]
  have hvk := hv k hk
  have hisk : isP ts k e 5 s = true → k + 1 < ts.length := by
    intro h
    simp only [isP, List.getElem?_eq_getElem hk, Bool.and_eq_true, beq_iff_eq] at h
    exact hvk (by omega)
  unfold Tok.av at hn hF
  simp only [pc]
  refine Spec_of Try.func48 rfl ?_
  simp only [Try.ntmps48, List.length_cons, List.length_nil, List.replicate_succ, List.replicate_zero, List.cons_append, List.nil_append, Nat.reduceAdd, Nat.reduceSub]
  (repeat' (first | with_reducible (first | refine awp_seq ?_ | refine awp_region ?_ | refine awp_skip ?_ | refine awpL_nil ?_ | refine thenA_normal ?_) | (refine awp_cond _ rfl (fun h => ?_) (fun h => ?_) <;> ((try (simp only [whn] at h)); first | (exfalso; omega; done) | skip)) | ((first | apply awpL_evl2 rfl | apply awpL_g2 _ _ rfl rfl rfl); (case h => ((try (intro (hp : (_ : Bool) = true); ((try simp only [Bool.and_eq_true, Bool.not_eq_true', Bool.not_eq_true] at hp); (try simp only [hp, wte]); (try simp only [whn] at hp)))); (first | (apply Evl_k 0 rfl; (exact Evl_mv _ rfl)) | (apply Evl_k 1 rfl; (exact Evl_and _ _ _ _ _ rfl rfl rfl rfl)) | (apply Evl_k 4 rfl; (exact Evl_nil _ rfl (by first | exact .inl ⟨_, rfl⟩ | fail))) | (apply Evl_k 5 rfl; (exact Evl_field_x _ _ _ _ _ _ rfl rfl HFld.out)) | (apply Evl_k 6 rfl; (exact Evl_load _ _ _ _ _ _ _ _ rfl rfl FBox.out HAgg.out (by first | exact Nat.le_of_ble_eq_true rfl | fail) (by first | exact Nat.le_of_ble_eq_true rfl | fail))) | (apply Evl_k 11 rfl; (first | exact Evl_callL 32 Try.f32 _ _ rfl rfl Try.func32 (by decide) rfl (by (repeat' (first | exact VwL.nil | (refine VwL.cons ?_ ?_) | exact Vw.box (List.Mem.head _) (VwL.refl _ _) | fail)); done) (hn) | exact Evl_callL 34 Try.f34 _ _ rfl rfl Try.func34 (by decide) rfl (by (repeat' (first | exact VwL.nil | (refine VwL.cons ?_ ?_) | exact Vw.box (List.Mem.head _) (VwL.refl _ _) | fail)); done) (failed_s ts k _ _ _ sv) | exact Evl_callL 45 Try.f45 _ _ rfl rfl Try.func45 (by decide) rfl (by (repeat' (first | exact VwL.nil | (refine VwL.cons ?_ ?_) | exact Vw.refl _ | exact Vw.box (List.Mem.head _) (VwL.refl _ _) | fail)); done) (hi))) | (apply Evl_x; (case hs => (intro _ _ h; cases h)); (case hx => rfl); (case hrun => (intro w; simp [wtb, AV.val, go_sem]; (try go_bits); rfl)))))); (case hT => ((try simp (disch := omega) only [wtn, pc, List.append_eq, List.foldl_cons, List.foldl_nil, List.map_cons, List.map_nil, Nat.reduceAdd, Nat.reduceMul, Nat.reduceSub, ↓reduceIte, Nat.reduceEqDiff]); rfl))) | (refine awpL_cons rfl ?_; ((first | (refine Stp_k 11 rfl ?_; ((refine Stp_call 46 Try.f46 [_] [] _ _ rfl rfl Try.func46 (by decide) rfl (List.Perm.refl _) (VwL.refl _ _) hF ?_; rintro _ _ ⟨e', l', c', rfl, rfl, he'⟩))) | (refine Stp_k 16 rfl ?_; ((refine Stp_store _ _ _ _ _ _ _ rfl rfl FBox.out HSize.out (by first | rfl | fail) (by first | exact Nat.le_of_ble_eq_true rfl | fail) ?_)))); apply awpL_cong; (case hT => ((try simp (disch := omega) only [wtn, pc, List.append_eq, List.foldl_cons, List.foldl_nil, List.map_cons, List.map_nil, Nat.reduceAdd, Nat.reduceMul, Nat.reduceSub, ↓reduceIte, Nat.reduceEqDiff]); rfl)); (case hH => ((try simp (disch := omega) only [wtn, pc, List.append_eq, List.foldl_cons, List.foldl_nil, List.map_cons, List.map_nil, Nat.reduceAdd, Nat.reduceMul, Nat.reduceSub, ↓reduceIte, Nat.reduceEqDiff]); rfl)))) | fail))
  all_goals
    refine endA_normal _ _ (Res0 rfl (Weak.mk' [] [_] (List.Perm.refl _) (VwHs.refl _ _) VwL.nil)) ?_
    refine ⟨_, _, _, _, rfl, rfl, ⟨?_, ?_, ?_⟩, ?_⟩
  all_goals first
    | omega
    | exact hvk (by omega)
    | exact hisk (Or.resolve_left (a := ¬ e = 0) (by assumption) (fun hh => hh (by assumption)))
    | (intro h0; first | rfl | fail)
end Go.Proofs.Ytfokgdmlecnpbaa
/- The reference's parser: signals, rungs. -/
namespace Go.Proofs.Ytfokgdmlecnpbaa
open Go.RowKit
set_option linter.unusedSimpArgs false
set_option linter.unusedVariables false
/-- The number of a signal's name; 0 if it has none. -/
def sigL (s : List UInt8) : Int := if s = [72, 85, 80] then 1 else if s = [73, 78, 84] then 2 else if s = [81, 85, 73, 84] then 3 else if s = [85, 83, 82, 49] then 10 else if s = [85, 83, 82, 50] then 12 else if s = [84, 69, 82, 77] then 15 else 0
set_option maxRecDepth 100000 in
set_option maxHeartbeats 8000000 in
theorem signal_s (s : List UInt8) : Spec Try.prog 53 [] [.x (.string (bs s))] (fun r H' => r = .x (.int .i64 (sigL s)) ∧ H' = []) := by
  refine Spec_of Try.func53 rfl ?_
  simp only [Try.ntmps53, List.length_cons, List.length_nil, List.replicate_succ, List.replicate_zero, List.cons_append, List.nil_append, Nat.reduceAdd, Nat.reduceSub]
  (repeat' (first | with_reducible (first | refine awp_seq ?_ | refine awp_region ?_ | refine awp_block ?_ | refine awp_ret ?_ | refine awp_skip ?_ | refine awpL_nil ?_ | refine thenA_normal ?_ | refine thenA_ret ?_ | refine inBlockA_normal ?_ | refine inBlockA_ret ?_) | (refine awp_cond _ rfl (fun h => ?_) (fun h => ?_) <;> ((try (simp only [whn] at h)); skip)) | ((apply awpL_evl2 rfl); (case h => ((try (intro (hp : (_ : Bool) = true); ((try simp only [Bool.and_eq_true, Bool.not_eq_true', Bool.not_eq_true] at hp); (try simp only [hp, wte]); (try simp only [whn] at hp)))); (first | (apply Evl_k 0 rfl; (first | exact Evl_mv _ rfl | exact Evl_as _ rfl)) | (apply Evl_x; (case hs => (intro _ _ h; cases h)); (case hx => rfl); (case hrun => (intro w; simp [wtb, AV.val, go_sem]; (try go_bits); rfl)))))); (case hT => ((try simp only [wtn, List.append_eq, List.foldl_cons, List.foldl_nil, List.map_cons, List.map_nil, Nat.reduceAdd, Nat.reduceMul, Nat.reduceSub, ↓reduceIte, Nat.reduceEqDiff]); rfl))) | fail))
  all_goals
    refine endA_ret _ _ (Res1 rfl (RV.tmp _) (Weak.mk' [] _ (List.Perm.refl _) (VwHs.refl _ _) (VwL.refl _ _))) ?_
    refine ⟨?_, rfl⟩
    first | (simp [sigL, ev, *]; done) | fail
end Go.Proofs.Ytfokgdmlecnpbaa
/- Rows of rungs. -/
namespace Go.Proofs.Ytfokgdmlecnpbaa
open Go.RowKit
set_option linter.unusedSimpArgs false
set_option linter.unusedVariables false
/-- The cells of rungs. -/
def ra (l : List (Int × Int)) : List AV := l.flatMap fun s => [.x (.int .i64 s.1), .x (.int .u64 s.2)]
@[simp] theorem ra_len (l : List (Int × Int)) : (ra l).length = l.length * 2 := by
  induction l with
  | nil => rfl
  | cons j l ih => simp only [ra, List.flatMap_cons, List.length_append, List.length_cons] at ih ⊢; rw [ih]; simp; omega
theorem ra_app (l m : List (Int × Int)) : ra (l ++ m) = ra l ++ ra m := by simp [ra]
end Go.Proofs.Ytfokgdmlecnpbaa
/- The reference's printer: numbers, policies, signals, patterns. -/
namespace Go.Proofs.Ytfokgdmlecnpbaa
open Go.RowKit
set_option linter.unusedSimpArgs false
set_option linter.unusedVariables false
def decL (n : Nat) : List UInt8 := if h : n < 10 then [UInt8.ofNat (48 + n)] else decL (n / 10) ++ decL (n % 10)
termination_by n
decreasing_by
  · omega
  · omega
theorem decL_len : ∀ (k n : Nat), n < 10 ^ (k + 1) → (decL n).length ≤ k + 1
  | 0, n, h => by rw [decL, dif_pos (by omega)]; simp
  | k + 1, n, h => by
    rw [decL]
    split
    · simp
    · rw [List.length_append]
      have h1 := decL_len k (n / 10) (by rw [Nat.pow_succ] at h; omega)
      have h2 := decL_len 0 (n % 10) (by omega)
      omega
theorem tdiv10 (n : Nat) : Int.tdiv (n : Int) 10 = ((n / 10 : Nat) : Int) := rfl
theorem tmod10 (n : Nat) : Int.tmod (n : Int) 10 = ((n % 10 : Nat) : Int) := rfl
theorem decL_len2 (n : Nat) (hn : n ≤ 18446744073709551615) : (decL n).length ≤ 20 :=
  decL_len 19 n (by have : (10:Nat) ^ (19 + 1) = 100000000000000000000 := by decide
                    omega)
set_option maxRecDepth 100000 in
set_option maxHeartbeats 8000000 in
theorem decimal_small (n : Nat) (h10 : n < 10) : Spec Try.prog 40 [] [.x (.int .u64 n)] (fun r H' => r = .x (.string (bs (decL n))) ∧ H' = []) := by
  refine Spec_of Try.func40 rfl ?_
  simp only [Try.ntmps40, List.length_cons, List.length_nil, List.replicate_succ, List.replicate_zero, List.cons_append, List.nil_append, Nat.reduceAdd, Nat.reduceSub]
  (repeat' (first | with_reducible (first | refine awp_seq ?_ | refine awp_region ?_ | refine awp_ret ?_ | refine awpL_nil ?_ | refine thenA_normal ?_ | refine thenA_ret ?_) | (refine awp_cond _ rfl (fun h => ?_) (fun h => ?_) <;> ((try (simp only [whn] at h)); first | (exfalso; omega; done) | skip)) | ((apply awpL_evl2 rfl); (case h => ((try (intro (hp : (_ : Bool) = true); ((try simp only [Bool.and_eq_true, Bool.not_eq_true', Bool.not_eq_true] at hp); (try simp only [hp, wte]); (try simp only [whn] at hp)))); (first | (apply Evl_k 0 rfl; (first | exact Evl_mv _ rfl | exact Evl_as _ rfl)) | (apply Evl_k 12 rfl; (exact Evl_string _ _ 5 _ [_] rfl (by kernel_rfl) (by kernel_rfl) (by kernel_rfl) (Src.chr 0 _ (by omega) (by omega) rfl rfl))) | (apply Evl_x; (case hs => (intro _ _ h; cases h)); (case hx => rfl); (case hrun => (intro w; simp [wtb, AV.val, go_sem]; (try go_bits); rfl)))))); (case hT => ((try simp only [wtn, List.append_eq, List.foldl_cons, List.foldl_nil, List.map_cons, List.map_nil, Nat.reduceAdd, Nat.reduceMul, Nat.reduceSub, ↓reduceIte, Nat.reduceEqDiff]); rfl))) | (refine awpL_cons rfl ?_; (((refine Stp_k 17 rfl ?_; ((refine Stp_buildSlice _ _ _ _ _ _ _ _ rfl HElem.out (by first | rfl | fail) rfl (by decide) rfl (fun b => ?_))))); apply awpL_cong; (case hT => ((try simp only [wtn, List.append_eq, List.foldl_cons, List.foldl_nil, List.map_cons, List.map_nil, Nat.reduceAdd, Nat.reduceMul, Nat.reduceSub, ↓reduceIte, Nat.reduceEqDiff]); rfl)); (case hH => ((try simp only [wtn, List.append_eq, List.foldl_cons, List.foldl_nil, List.map_cons, List.map_nil, Nat.reduceAdd, Nat.reduceMul, Nat.reduceSub, ↓reduceIte, Nat.reduceEqDiff]); rfl)))) | fail))
  refine endA_ret _ _ (Res1 rfl (RV.tmp _) (Weak.mk' [_] [] (List.Perm.refl _) (VwHs.refl _ _) (by first | exact VwL.refl _ _ | fail))) ?_
  refine ⟨?_, rfl⟩
  rw [decL, dif_pos h10]
  simp only [ev, List.getD_cons_succ, List.getD_cons_zero]
  congr 3
set_option maxRecDepth 100000 in
set_option maxHeartbeats 8000000 in
theorem decimal_big (n : Nat) (hn : n ≤ 18446744073709551615) (h10 : ¬ n < 10) (h1 : Spec Try.prog 40 [] [.x (.int .u64 (n / 10 : Nat))] (fun r H' => r = .x (.string (bs (decL (n / 10)))) ∧ H' = []))
    (h2 : Spec Try.prog 40 [] [.x (.int .u64 (n % 10 : Nat))] (fun r H' => r = .x (.string (bs (decL (n % 10)))) ∧ H' = [])) : Spec Try.prog 40 [] [.x (.int .u64 n)] (fun r H' => r = .x (.string (bs (decL n))) ∧ H' = []) := by
  have hL1 := decL_len2 (n / 10) (by omega)
  have hL2 := decL_len2 (n % 10) (by omega)
  refine Spec_of Try.func40 rfl ?_
  simp only [Try.ntmps40, List.length_cons, List.length_nil, List.replicate_succ, List.replicate_zero, List.cons_append, List.nil_append, Nat.reduceAdd, Nat.reduceSub]
  (repeat' (first | with_reducible (first | refine awp_seq ?_ | refine awp_region ?_ | refine awp_ret ?_ | refine awp_skip ?_ | refine awpL_nil ?_ | refine thenA_normal ?_) | (refine awp_cond _ rfl (fun h => ?_) (fun h => ?_) <;> ((try (simp only [whn] at h)); first | (exfalso; omega; done) | skip)) | ((apply awpL_evl2 rfl); (case h => ((try (intro (hp : (_ : Bool) = true); ((try simp only [Bool.and_eq_true, Bool.not_eq_true', Bool.not_eq_true] at hp); (try simp only [hp, wte]); (try simp only [whn] at hp)))); (first | (apply Evl_k 0 rfl; (first | exact Evl_mv _ rfl | exact Evl_as _ rfl)) | (apply Evl_k 11 rfl; (first | exact Evl_call 40 Try.f40 _ _ rfl rfl Try.func40 (by decide) rfl (VwL.refl _ _) (h1) | exact Evl_call 40 Try.f40 _ _ rfl rfl Try.func40 (by decide) rfl (VwL.refl _ _) (h2))) | (apply Evl_k 12 rfl; (exact Evl_concat _ _ _ _ rfl rfl rfl (by omega))) | (apply Evl_x; (case hs => (intro _ _ h; cases h)); (case hx => rfl); (case hrun => (intro w; simp [wtb, AV.val, go_sem]; (try go_bits); rfl)))))); (case hT => ((try simp (disch := omega) only [wtn, tdiv10, tmod10, List.append_eq, List.foldl_cons, List.foldl_nil, List.map_cons, List.map_nil, Nat.reduceAdd, Nat.reduceMul, Nat.reduceSub, ↓reduceIte, Nat.reduceEqDiff]); rfl))) | fail))
  refine endA_ret _ _ (Res1 rfl (RV.tmp _) (Weak.mk' [] _ (List.Perm.refl _) (VwHs.refl _ _) (VwL.refl _ _))) ?_
  refine ⟨?_, rfl⟩
  conv => rhs; rw [decL, dif_neg h10]
  rfl
theorem decimal_s (n : Nat) (hn : n ≤ 18446744073709551615) : Spec Try.prog 40 [] [.x (.int .u64 n)] (fun r H' => r = .x (.string (bs (decL n))) ∧ H' = []) := by
  induction n using Nat.strongRecOn with
  | _ n ih =>
    by_cases h10 : n < 10
    · exact decimal_small n h10
    · exact decimal_big n hn h10 (ih (n / 10) (by omega) (by omega)) (ih (n % 10) (by omega) (by omega))
def policyL (n : Int) : List UInt8 := if n = 3 then [97, 108, 119, 97, 121, 115] else if n = 2 then [111, 110, 45, 102, 97, 105, 108, 117, 114, 101] else if n = 1 then [110, 101, 118, 101, 114] else [63]
set_option maxRecDepth 100000 in
set_option maxHeartbeats 8000000 in
theorem policy_s (n : Int) : Spec Try.prog 39 [] [.x (.int .i64 n)] (fun r H' => r = .x (.string (bs (policyL n))) ∧ H' = []) := by
  refine Spec_of Try.func39 rfl ?_
  simp only [Try.ntmps39, List.length_cons, List.length_nil, List.replicate_succ, List.replicate_zero, List.cons_append, List.nil_append, Nat.reduceAdd, Nat.reduceSub]
  (repeat' (first | with_reducible (first | refine awp_seq ?_ | refine awp_region ?_ | refine awp_block ?_ | refine awp_ret ?_ | refine awp_skip ?_ | refine awpL_nil ?_ | refine thenA_normal ?_ | refine thenA_ret ?_ | refine inBlockA_normal ?_ | refine inBlockA_ret ?_) | (refine awp_cond _ rfl (fun h => ?_) (fun h => ?_) <;> ((try (simp only [whn] at h)); skip)) | ((apply awpL_evl2 rfl); (case h => ((try (intro (hp : (_ : Bool) = true); ((try simp only [Bool.and_eq_true, Bool.not_eq_true', Bool.not_eq_true] at hp); (try simp only [hp, wte]); (try simp only [whn] at hp)))); (first | (apply Evl_k 0 rfl; (first | exact Evl_mv _ rfl | exact Evl_as _ rfl)) | (apply Evl_x; (case hs => (intro _ _ h; cases h)); (case hx => rfl); (case hrun => (intro w; simp [wtb, AV.val, go_sem]; (try go_bits); rfl)))))); (case hT => ((try simp only [wtn, List.append_eq, List.foldl_cons, List.foldl_nil, List.map_cons, List.map_nil, Nat.reduceAdd, Nat.reduceMul, Nat.reduceSub, ↓reduceIte, Nat.reduceEqDiff]); rfl))) | fail))
  all_goals
    refine endA_ret _ _ (Res1 rfl (RV.tmp _) (Weak.mk' [] _ (List.Perm.refl _) (VwHs.refl _ _) (VwL.refl _ _))) ?_
    refine ⟨?_, rfl⟩
    first | (simp [policyL, ev, *, bs]; done) | fail
end Go.Proofs.Ytfokgdmlecnpbaa
