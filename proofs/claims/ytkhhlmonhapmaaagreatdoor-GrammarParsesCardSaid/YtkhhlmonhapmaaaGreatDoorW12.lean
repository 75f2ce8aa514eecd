import Derived.Test.YtkhhlmonhapmaaaGreatDoorW11
import Derived.Test.YtkhhlmonhapmaaaGreatDoorW6
/- Of the tokens of a text: how lexGo unfolds. No program in sight. -/
set_option linter.unusedSimpArgs false
set_option linter.unusedVariables false
namespace Go.Proofs.YtkhhlmonhapmaaaGreatDoor
open Go.RowKit
theorem lexGo_end (p : Nat × Nat) (n : Nat) (l : List UInt8) (h : l.drop (skp l) = []) : lexGo p n l = .ok [⟨6, [], (plc p l).1, (plc p l).2⟩] := by
  rw [lexGo]
  split
  · rfl
  · rename_i h2; rw [h] at h2; cases h2
theorem lexGo_bad (p : Nat × Nat) (n : Nat) (l : List UInt8) (c : UInt8) (r : List UInt8) (e : Int) (h : l.drop (skp l) = c :: r) (h1 : one (c :: r) = .error e) : lexGo p n l = .error ⟨e, (plc p (l.take (skp l))).1, (plc p (l.take (skp l))).2⟩ := by
  rw [lexGo]
  split
  · rename_i h2; rw [h] at h2; cases h2
  · rename_i c' r' h2
    rw [h] at h2; cases h2
    rw [h1]
theorem lexGo_full (p : Nat × Nat) (n : Nat) (l : List UInt8) (c : UInt8) (r : List UInt8) (x : Int × List UInt8 × Nat) (h : l.drop (skp l) = c :: r) (h1 : one (c :: r) = .ok x) (hn : 2000 ≤ n) : lexGo p n l = .error ⟨1, (plc p (l.take (skp l))).1, (plc p (l.take (skp l))).2⟩ := by
  rw [lexGo]
  split
  · rename_i h2; rw [h] at h2; cases h2
  · rename_i c' r' h2
    rw [h] at h2; cases h2
    rw [h1]
    simp only [if_pos hn]
theorem lexGo_one (p : Nat × Nat) (n : Nat) (l : List UInt8) (c : UInt8) (r : List UInt8) (k : Int) (t : List UInt8) (m : Nat) (h : l.drop (skp l) = c :: r) (h1 : one (c :: r) = .ok (k, t, m)) (hm : 1 ≤ m) (hn : n < 2000) :
    lexGo p n l = (lexGo (plc p (l.take (skp l + m))) (n + 1) ((c :: r).drop m)).map (⟨k, t, (plc p (l.take (skp l))).1, (plc p (l.take (skp l))).2⟩ :: ·) := by
  rw [lexGo]
  split
  · rename_i h2; rw [h] at h2; cases h2
  · rename_i c' r' h2
    rw [h] at h2; cases h2
    rw [h1]
    simp only [if_neg (show ¬ 2000 ≤ n by omega), show max m 1 = m from by omega]
end Go.Proofs.YtkhhlmonhapmaaaGreatDoor
namespace Go.Proofs.YtkhhlmonhapmaaaGreatDoor
open Go.RowKit
theorem plc_app' (p : Nat × Nat) (a b : List UInt8) : plc p (a ++ b) = plc (plc p a) b := by
  induction a generalizing p with
  | nil => rfl
  | cons c a ih => simp only [List.cons_append, plc]; exact ih _
theorem plc_at (l : List UInt8) (k s : Nat) : plc (plc (1, 1) (l.take k)) ((l.drop k).take s) = plc (1, 1) (l.take (k + s)) := by
  rw [← plc_app', ← List.take_add]
theorem skp_le' (l : List UInt8) : skp l ≤ l.length := by
  induction h : l.length using Nat.strongRecOn generalizing l with
  | _ n ih =>
    cases l with
    | nil => simp [skp_nil]
    | cons c r =>
      by_cases h1 : c.toNat = 32 ∨ c.toNat = 9 ∨ c.toNat = 10 ∨ c.toNat = 13
      · rw [skp_blank c r h1]
        have := ih r.length (by simp at h; omega) r rfl
        simp at h; omega
      · by_cases h2 : c.toNat = 35
        · rw [skp_cmt c r h2]
          have h3 := cmt_yes c r (by omega)
          have := ih ((c :: r).drop (cmt (c :: r))).length (by simp at h ⊢; omega) _ rfl
          have h4 := cmt_le (c :: r)
          rw [List.length_drop] at this
          omega
        · rw [skp_no c r h1 h2]; exact Nat.zero_le _
theorem one_le {l : List UInt8} {x : Int × List UInt8 × Nat} (h : one l = .ok x) : 1 ≤ x.2.2 ∧ x.2.2 ≤ l.length ∧ x.2.1.length ≤ l.length ∧ x.1 ≠ 6 := by
  cases l with
  | nil => simp [one] at h
  | cons c r =>
    have hs := fun p => spn_le p (c :: r)
    simp only [one] at h
    split at h
    · cases h
      rename_i hc
      have := spn_yes isWrd c r (by simp [isWrd, hc])
      refine ⟨by simp only; omega, hs _, by simp only [List.length_take]; omega, by simp⟩
    · split at h
      · rename_i hc
        have := spn_yes isDig c r hc
        split at h
        · cases h
        · cases h; refine ⟨by simp only; omega, hs _, by simp only [List.length_take]; omega, by simp⟩
      · split at h
        · cases hq : quo r with
          | none => rw [hq] at h; cases h
          | some y =>
            rw [hq] at h; cases h
            have := quo_le r y hq
            simp only [List.length_cons]
            refine ⟨by omega, by omega, by omega, by simp⟩
        · split at h
          · cases hq : sla r with
            | none => rw [hq] at h; cases h
            | some y =>
              rw [hq] at h; cases h
              have := sla_le r y hq
              simp only [List.length_cons]
              refine ⟨by omega, by omega, by omega, by simp⟩
          · split at h
            · cases h; simp
            · cases h
structure LxAt (l : List UInt8) (k : Nat) (ts : List Tok) : Prop where
  le : k ≤ l.length
  cnt : ts.length ≤ 2000
  eq : lexGo (1, 1) 0 l = (lexGo (plc (1, 1) (l.take k)) ts.length (l.drop k)).map (ts ++ ·)
theorem except_map_id {ε α : Type} (x : Except ε α) (f : α → α) (h : ∀ a, f a = a) : x.map f = x := by cases x <;> simp [Except.map, h]
theorem LxAt.start (l : List UInt8) : LxAt l 0 [] where
  le := Nat.zero_le _
  cnt := Nat.zero_le _
  eq := by simp [plc, except_map_id]
section
variable {l : List UInt8} {k : Nat} {ts : List Tok}
def nxk (l : List UInt8) (k : Nat) : Nat := k + skp (l.drop k)
theorem nxk_le (h : k ≤ l.length) : nxk l k ≤ l.length := by
  have := skp_le' (l.drop k)
  rw [List.length_drop] at this
  unfold nxk; omega
theorem LxAt.fin (h : LxAt l k ts) (he : l.length ≤ nxk l k) : lexGo (1, 1) 0 l = .ok (ts ++ [⟨6, [], (plc (1, 1) (l.take (nxk l k))).1, (plc (1, 1) (l.take (nxk l k))).2⟩]) := by
  have hd : (l.drop k).drop (skp (l.drop k)) = [] := by
    rw [List.drop_drop]; exact List.drop_eq_nil_of_le (by unfold nxk at he; omega)
  rw [h.eq, lexGo_end _ _ _ hd]
  have : plc (plc (1, 1) (l.take k)) (l.drop k) = plc (1, 1) (l.take (nxk l k)) := by
    have h2 := plc_at l k (l.length - k)
    rw [List.take_of_length_le (show (l.drop k).length ≤ l.length - k by rw [List.length_drop]; exact Nat.le_refl _), List.take_of_length_le (show l.length ≤ k + (l.length - k) by omega)] at h2
    rw [h2, List.take_of_length_le he]
  rw [this]; rfl
theorem LxAt.cons (h : LxAt l k ts) (he : nxk l k < l.length) : ∃ c r, l.drop (nxk l k) = c :: r ∧ (l.drop k).drop (skp (l.drop k)) = c :: r := by
  refine ⟨l[nxk l k], l.drop (nxk l k + 1), List.drop_eq_getElem_cons he, ?_⟩
  rw [List.drop_drop]; exact List.drop_eq_getElem_cons he
theorem LxAt.bad (h : LxAt l k ts) {c : UInt8} {r : List UInt8} (hc : (l.drop k).drop (skp (l.drop k)) = c :: r) {e : Int} (h1 : one (c :: r) = .error e) : lexGo (1, 1) 0 l = .error ⟨e, (plc (1, 1) (l.take (nxk l k))).1, (plc (1, 1) (l.take (nxk l k))).2⟩ := by
  rw [h.eq, lexGo_bad _ _ _ c r e hc h1, plc_at]; rfl
theorem LxAt.full (h : LxAt l k ts) {c : UInt8} {r : List UInt8} (hc : (l.drop k).drop (skp (l.drop k)) = c :: r) {x : Int × List UInt8 × Nat} (h1 : one (c :: r) = .ok x) (hn : 2000 ≤ ts.length) : lexGo (1, 1) 0 l = .error ⟨1, (plc (1, 1) (l.take (nxk l k))).1, (plc (1, 1) (l.take (nxk l k))).2⟩ := by
  rw [h.eq, lexGo_full _ _ _ c r x hc h1 hn, plc_at]; rfl
theorem LxAt.next (h : LxAt l k ts) {c : UInt8} {r : List UInt8} (hc : (l.drop k).drop (skp (l.drop k)) = c :: r) {a : Int} {t : List UInt8} {m : Nat} (h1 : one (c :: r) = .ok (a, t, m)) (hn : ts.length < 2000) :
    LxAt l (nxk l k + m) (ts ++ [⟨a, t, (plc (1, 1) (l.take (nxk l k))).1, (plc (1, 1) (l.take (nxk l k))).2⟩]) := by
  obtain ⟨g1, g2, g3, g4⟩ := one_le h1
  simp only at g1 g2
  have hlen := congrArg List.length hc
  simp only [List.length_drop] at hlen
  have hle := h.le
  refine ⟨by unfold nxk; omega, by simp; omega, ?_⟩
  rw [h.eq, lexGo_one _ _ _ c r a t m hc h1 g1 hn, plc_at, plc_at]
  have e1 : (c :: r).drop m = l.drop (nxk l k + m) := by rw [← hc, List.drop_drop, List.drop_drop]; congr 1; unfold nxk; omega
  rw [e1, show k + (skp (l.drop k) + m) = nxk l k + m from by unfold nxk; omega]
  simp only [List.length_append, List.length_cons, List.length_nil, Nat.zero_add]
  cases lexGo (plc (1, 1) (l.take (nxk l k + m))) (ts.length + 1) (l.drop (nxk l k + m)) with
  | error e => rfl
  | ok y => simp only [Except.map, nxk, List.append_assoc, List.singleton_append]
end
theorem lexGo_ok : ∀ (n : Nat) (p : Nat × Nat) (i : Nat) (l : List UInt8) (ts : List Tok), l.length ≤ n → lexGo p i l = .ok ts → ∃ qs e, ts = qs ++ [e] ∧ e.kind = 6 ∧ (∀ t ∈ qs, t.kind ≠ 6) ∧ ∀ t ∈ ts, t.text.length ≤ l.length
  | n, p, i, l, ts, hn, h => by
    cases hd : l.drop (skp l) with
    | nil =>
      rw [lexGo_end p i l hd] at h; cases h
      exact ⟨[], _, rfl, rfl, by simp, by simp⟩
    | cons c r =>
      have hlen := congrArg List.length hd
      simp only [List.length_drop, List.length_cons] at hlen
      cases h1 : one (c :: r) with
      | error e => rw [lexGo_bad p i l c r e hd h1] at h; cases h
      | ok x =>
        by_cases hi : 2000 ≤ i
        · rw [lexGo_full p i l c r x hd h1 hi] at h; cases h
        · obtain ⟨a, t, m⟩ := x
          obtain ⟨g1, g2, g3, g4⟩ := one_le h1
          simp only at g1 g2 g3 g4
          rw [lexGo_one p i l c r a t m hd h1 g1 (by omega)] at h
          cases hr : lexGo (plc p (l.take (skp l + m))) (i + 1) ((c :: r).drop m) with
          | error e => rw [hr] at h; cases h
          | ok y =>
            rw [hr] at h
            simp only [Except.map] at h
            cases h
            cases n with
            | zero => omega
            | succ n =>
              obtain ⟨qs, e, rfl, he, has, ht⟩ := lexGo_ok n _ _ _ y (by simp only [List.length_drop, List.length_cons]; omega) hr
              refine ⟨_ :: qs, e, rfl, he, ?_, ?_⟩
              · intro t ht
                rcases List.mem_cons.1 ht with rfl | ht
                · exact g4
                · exact has t ht
              · intro t ht2
                rcases List.mem_cons.1 ht2 with rfl | ht2
                · show t.length ≤ l.length
                  rw [List.length_cons] at g3; omega
                · have := ht t ht2
                  rw [List.length_drop, List.length_cons] at this; omega
end Go.Proofs.YtkhhlmonhapmaaaGreatDoor
namespace Go.Proofs.YtkhhlmonhapmaaaGreatDoor
open Go.RowKit
theorem Spec_q {P : Program} {f : FuncId} {args : List Value} {v : Value} (h : ∀ w, Calls P f args.toArray w fun e w' => e = .returned v ∧ w' = w) (H : List Hp) : Spec P f H (args.map .x) fun r H' => r = .x v ∧ H' = H :=
  Spec_calls (fun w => (h w).mono fun e w' ⟨h1, h2⟩ => ⟨h1, h2 ▸ Below.refl _ _⟩) H
theorem skip_s (l : List UInt8) (hl : l.length ≤ 1000000) : Spec Tryz.prog 57 [] [.x (.string (bs l))] (fun r H' => r = .x (.int .i64 (skp l : Nat)) ∧ H' = []) := Spec_q (args := [.string (bs l)]) (fun w => rskip_any l w hl) []
theorem where_s (l : List UInt8) (n : Nat) (hl : l.length ≤ 1000000) (hn : n ≤ l.length) : Spec Tryz.prog 58 [] [.x (.string (bs l)), .x (.int .i64 n)] (fun r H' => r = .tup [.x (.int .i64 ((plc (1, 1) (l.take n)).1 : Nat)), .x (.int .i64 ((plc (1, 1) (l.take n)).2 : Nat))] ∧ H' = []) :=
  (Spec_q (args := [.string (bs l), .int .i64 n]) (fun w => rwhere_any l n w hl hn) []).weak fun r H' ⟨h1, h2⟩ => ⟨_, _, by subst h1 h2; exact Weak.mk' [] [] (List.Perm.refl _) VwHs.nil (VwL.cons (Vw.tupx (l := [_, _]) (VwL.refl _ _)) VwL.nil), rfl, rfl⟩
def oneA (x : Except Int (Int × List UInt8 × Nat)) : AV := match x with
  | .error e => .tup [.x (.int .i64 0), .x (.string (bs [])), .x (.int .i64 0), .x (.int .i64 e)]
  | .ok x => .tup [.x (.int .i64 x.1), .x (.string (bs x.2.1)), .x (.int .i64 (x.2.2 : Nat)), .x (.int .i64 0)]
theorem one_s (l : List UInt8) (hl : l.length ≤ 1000000) (h0 : l ≠ []) : Spec Tryz.prog 59 [] [.x (.string (bs l))] (fun r H' => r = oneA (one l) ∧ H' = []) := by
  cases l with
  | nil => exact absurd rfl h0
  | cons c r =>
    refine (Spec_calls (args := [.string (bs (c :: r))]) (fun w => rone_any c r w (by simp at hl; omega)) []).weak fun q H' ⟨h1, h2⟩ => ?_
    subst h1 h2
    refine ⟨_, _, Weak.mk' [] [] (List.Perm.refl _) VwHs.nil (VwL.cons ?_ VwL.nil), rfl, rfl⟩
    unfold oneA oner
    cases one (c :: r) with
    | error e => exact Vw.tupx (l := [_, _, _, _]) (VwL.refl _ _)
    | ok x => exact Vw.tupx (l := [_, _, _, _]) (VwL.refl _ _)
def Tok.cells (t : Tok) : List AV := [.x (.int .i64 t.kind), .x (.string (bs t.text)), .x (.int .i64 (t.line : Nat)), .x (.int .i64 (t.col : Nat))]
def ta (l : List Tok) : List AV := l.flatMap Tok.cells
@[simp] theorem ta_len (l : List Tok) : (ta l).length = l.length * 4 := by
  induction l with
  | nil => rfl
  | cons j l ih => simp only [ta, List.flatMap_cons, List.length_append, List.length_cons] at ih ⊢; rw [ih]; simp [Tok.cells]; omega
theorem ta_app (l m : List Tok) : ta (l ++ m) = ta l ++ ta m := by simp [ta]
theorem ta_drop (l : List Tok) (k : Nat) (h : k < l.length) : (ta l).drop (k * 4) = l[k].cells ++ ta (l.drop (k + 1)) := by
  induction l generalizing k with
  | nil => simp at h
  | cons j l ih =>
    have hc : j.cells.length = 4 := rfl
    cases k with
    | zero => simp [ta]
    | succ k =>
      simp only [ta, List.flatMap_cons, List.drop_succ_cons, List.getElem_cons_succ] at ih ⊢
      rw [show (k + 1) * 4 = 4 + k * 4 from by omega, ← List.drop_drop, List.drop_append_of_le_length (by omega), show j.cells.drop 4 = [] from rfl, List.nil_append]
      exact ih k (by simpa using h)
def toksOf : Except Flt (List Tok) → List Tok | .ok l => l | .error _ => []
def fltOf : Except Flt (List Tok) → Flt | .ok _ => ⟨0, 0, 0⟩ | .error f => f
def Flt.av (f : Flt) : AV := .x (.agg #[.int .i64 f.code, .int .i64 (f.line : Nat), .int .i64 (f.col : Nat)])
theorem nxk_cast (l : List UInt8) (k : Nat) : (k : Int) + (skp (l.drop k) : Nat) = (nxk l k : Nat) := by unfold nxk; omega
theorem one_err {l : List UInt8} {e : Int} (h : one l = .error e) : 50 ≤ e ∧ e ≤ 53 := by
  cases l with
  | nil => simp [one] at h; omega
  | cons c r =>
    simp only [one] at h
    repeat' (first | (split at h) | (cases h; done) | (cases h; omega) | fail)
    all_goals (first | (cases h; omega) | fail)
set_option maxRecDepth 100000 in
set_option maxHeartbeats 8000000 in
theorem all_s (l : List UInt8) (hl : l.length ≤ 1000000) : Spec Tryz.prog 35 [] [.x (.string (bs l))] (fun r H' => r = .tup [.sq (toksOf (lex l)).length (ta (toksOf (lex l))), (fltOf (lex l)).av] ∧ H' = []) := by
  refine Spec_of Tryz.func35 rfl ?_
  simp only [Tryz.ntmps35, List.length_cons, List.length_nil, List.replicate_succ, List.replicate_zero, List.cons_append, List.nil_append, Nat.reduceAdd, Nat.reduceSub]
  (repeat' (first | with_reducible (first | refine awp_seq ?_ | refine awp_region ?_ | refine awp_block ?_ | refine awp_ret ?_ | refine awp_skip ?_ | refine awpL_nil ?_ | refine thenA_normal ?_ | refine thenA_ret ?_) | (refine awp_cond _ rfl (fun h => ?_) (fun h => ?_) <;> ((try (simp only [whn] at h)); skip)) | ((apply awpL_evl2 rfl); (case h => ((first | (apply Evl_k 0 rfl; (first | exact Evl_mv _ rfl | exact Evl_as _ rfl)) | (apply Evl_k 10 rfl; (exact Evl_build _ _ _ _ _ rfl HPl.out (by first | rfl | fail) rfl)) | (apply Evl_x; (case hs => (intro _ _ h; cases h)); (case hx => rfl); (case hrun => (intro w; simp [wtb, AV.val, go_sem]; skip; rfl)))))); (case hT => ((try simp only [wtn, ↓reduceIte]); rfl))) | (refine awpL_cons rfl ?_; ((first | (refine Stp_k 14 rfl ?_; ((refine Stp_alloc _ _ rfl HZero.out rfl (fun b => ?_)))) | (refine Stp_k 16 rfl ?_; ((refine Stp_store _ _ _ _ _ _ _ rfl rfl FBox.out HSize.out (by first | rfl | fail) (by first | exact Nat.le_of_ble_eq_true rfl | fail) ?_)))); apply awpL_cong; (case hT => ((try simp only [wtn]); rfl)); (case hH => ((try simp only [wtn, Nat.reduceAdd]); rfl)))) | fail))
  case hK.h.hK.hK.hK.refine_1.hK.hK.h =>
    have e : lex l = .error ⟨1, 0, 0⟩ := by unfold lex; rw [if_pos (by omega)]
    rw [e]
    refine endA_ret _ _ (Res2 rfl (RV.tmp _) (RV.cell 0 rfl rfl HAgg.out (by simp) (by simp)) (Weak.mk' [_] [] (List.Perm.refl _) VwHs.nil (VwL.cons Vw.nil (VwL.refl _ _)))) ?_
    exact ⟨rfl, rfl⟩
  have hlex : lex l = lexGo (1, 1) 0 l := by unfold lex; rw [if_neg (by omega)]
  rw [hlex]
  refine awp_nilrow 70 4 ?_
  refine awp_loopS (S := Nat × List Tok × Option Addr × Nat) (fun s => frm 72 [(0, .x (.string (bs l))), (3, .x (.pointer (some ⟨b, 0, none⟩))), (4, .x (.slice s.2.2.1 s.2.1.length s.2.2.2)), (5, .x (.int .i64 s.1))])
    (fun s => [.row s.2.2.1 s.2.1.length s.2.2.2 70 4 (ta s.2.1), .box b [.x (.int .i64 0), .x (.int .i64 0), .x (.int .i64 0)]]) (fun s => LxAt l s.1 s.2.1) (fun s => l.length - s.1) (0, [], none, 0) ?a (LxAt.start l) fun s hs => ?_
  case a => exact (Weak.mk' [] _ (List.Perm.refl _) (VwHs.refl _ _) (by (repeat' (first | exact VwL.nil | (refine VwL.cons ?_ ?_) | exact Vw.refl _ | exact Vw.top _ | fail))))
  obtain ⟨k, ts, ad, cap⟩ := s
  simp only at hs
  have hk := hs.le
  have hnk := nxk_le (l := l) hk
  have hcn := hs.cnt
  have hk2 : k ≤ nxk l k := by unfold nxk; omega
  have hsk : k + skp (l.drop k) ≤ l.length := hnk
  have hs' := Lib.hid hs
  have hlex' := Lib.hid hlex
  clear hs hlex
  simp only [frm, List.replicate_succ, List.replicate_zero, List.foldl_cons, List.foldl_nil, List.set_cons_zero, List.set_cons_succ]
  by_cases he : l.length ≤ nxk l k
  · have hfin := Lib.hid (hs'.out.fin he)
    (repeat' (first | with_reducible (first | refine awp_seq ?_ | refine awp_region ?_ | refine awp_block ?_ | refine awp_ret ?_ | refine awpL_nil ?_ | refine thenA_normal ?_ | refine thenA_ret ?_ | refine inBlockA_ret ?_) | (refine awp_cond _ rfl (fun h => ?_) (fun h => ?_) <;> ((try (simp only [whn] at h)); first | (exfalso; omega; done) | skip)) | ((apply awpL_evl2 rfl); (case h => ((first | (apply Evl_k 0 rfl; (first | exact Evl_mv _ rfl | exact Evl_as _ rfl)) | (apply Evl_k 2 rfl; (exact Evl_extract _ _ _ _ rfl rfl rfl)) | (apply Evl_k 9 rfl; (exact Evl_slice_str _ _ _ _ _ _ _ rfl rfl (by kernel_rfl) (by first | exact .inr ⟨_, _, rfl, rfl⟩ | fail) (by first | exact .inl ⟨rfl, rfl⟩ | fail) (by omega) (by omega))) | (apply Evl_k 10 rfl; (exact Evl_build _ _ _ _ _ rfl HPl.out (by first | rfl | fail) rfl)) | (apply Evl_k 11 rfl; (first | exact Evl_call 57 Tryz.f57 _ _ rfl rfl Tryz.func57 (by decide) rfl (VwL.refl _ _) (skip_s (l.drop k) (by simp; omega)) | exact Evl_call 58 Tryz.f58 _ _ rfl rfl Tryz.func58 (by decide) rfl (VwL.refl _ _) (where_s l (nxk l k) hl hnk))) | (apply Evl_x; (case hs => (intro _ _ h; cases h)); (case hx => rfl); (case hrun => (intro w; simp [wtb, AV.val, go_sem]; (try go_bits); rfl)))))); (case hT => ((try simp (disch := omega) only [wtn, List.take_length, nxk_cast, List.append_eq, List.foldl_cons, List.foldl_nil, List.map_cons, List.map_nil, Nat.reduceAdd, Nat.reduceMul, Nat.reduceSub, ↓reduceIte, Nat.reduceEqDiff]); rfl))) | (refine awpL_cons rfl ?_; ((first | (refine Stp_k 13 rfl ?_; ((refine Stp_append _ _ _ _ _ _ _ _ _ _ _ _ _ _ rfl rfl FRow.out (Src.row _ rfl FRow.out) HElem.out (by first | rfl | fail) (fits _ _ (by omega) (by decide)) (fun ad cap => ?_)))) | (refine Stp_k 16 rfl ?_; ((refine Stp_store _ _ _ _ _ _ _ rfl rfl FBox.out HSize.out (by first | rfl | fail) (by first | exact Nat.le_of_ble_eq_true rfl | fail) ?_))) | (refine Stp_k 17 rfl ?_; ((refine Stp_buildSlice _ _ _ _ _ _ _ _ rfl HElem.out (by first | rfl | fail) rfl (by decide) rfl (fun b => ?_))))); apply awpL_cong; (case hT => ((try simp (disch := omega) only [wtn, List.take_length, nxk_cast, List.append_eq, List.foldl_cons, List.foldl_nil, List.map_cons, List.map_nil, Nat.reduceAdd, Nat.reduceMul, Nat.reduceSub, ↓reduceIte, Nat.reduceEqDiff]); rfl)); (case hH => ((try simp (disch := omega) only [wtn, List.take_length, nxk_cast, List.append_eq, List.foldl_cons, List.foldl_nil, List.map_cons, List.map_nil, Nat.reduceAdd, Nat.reduceMul, Nat.reduceSub, ↓reduceIte, Nat.reduceEqDiff]); rfl)))) | fail))
    rw [hfin.out]
    refine endA_ret _ _ (Res2 rfl (RV.tmp _) (RV.cell 2 rfl rfl HAgg.out (by simp) (by simp)) (Weak.mk' [_, _, _] [] (List.Perm.refl _) VwHs.nil (VwL.cons (Vw.row (List.Mem.tail _ (List.Mem.head _)) (VwL.refl _ _)) (VwL.refl _ _)))) ?_
    refine ⟨?_, rfl⟩
    simp only [toksOf, fltOf, Flt.av, ta_app, List.length_append, List.length_cons, List.length_nil]
    rfl
  · obtain ⟨c, r, hc1, hc2⟩ := hs'.out.cons (by omega)
    have ho := one_s (l.drop (nxk l k)) (by simp; omega) (by rw [hc1]; simp)
    have hkl : nxk l k < l.length := by omega
    cases h1 : one (l.drop (nxk l k)) with
    | error e =>
      have he1 := one_err h1
      have hb := Lib.hid (hs'.out.bad hc2 (by rw [← hc1]; exact h1))
      rw [h1] at ho
      simp only [oneA] at ho
      clear hc1 hc2 h1
      (repeat' (first | with_reducible (first | refine awp_seq ?_ | refine awp_region ?_ | refine awp_block ?_ | refine awp_ret ?_ | refine awp_skip ?_ | refine awpL_nil ?_ | refine thenA_normal ?_ | refine thenA_ret ?_ | refine inBlockA_ret ?_) | (refine awp_cond _ rfl (fun h => ?_) (fun h => ?_) <;> ((try (simp only [whn] at h)); first | (exfalso; omega; done) | skip)) | ((first | apply awpL_evl2 rfl | apply awpL_g2 _ _ rfl rfl rfl); (case h => ((try (intro (hp : (_ : Bool) = true); ((try simp only [hp]); (try simp only [whn] at hp)))); (first | (apply Evl_k 0 rfl; (first | exact Evl_mv _ rfl | exact Evl_as _ rfl)) | (apply Evl_k 1 rfl; (exact Evl_and _ _ _ _ _ rfl rfl rfl rfl)) | (apply Evl_k 2 rfl; (exact Evl_extract _ _ _ _ rfl rfl rfl)) | (apply Evl_k 9 rfl; (exact Evl_slice_str _ _ _ _ _ _ _ rfl rfl (by kernel_rfl) (by first | exact .inr ⟨_, _, rfl, rfl⟩ | fail) (by first | exact .inl ⟨rfl, rfl⟩ | fail) (by omega) (by omega))) | (apply Evl_k 10 rfl; (exact Evl_build _ _ _ _ _ rfl HPl.out (by first | rfl | fail) rfl)) | (apply Evl_k 11 rfl; (first | exact Evl_call 57 Tryz.f57 _ _ rfl rfl Tryz.func57 (by decide) rfl (VwL.refl _ _) (skip_s (l.drop k) (by simp; omega)) | exact Evl_call 58 Tryz.f58 _ _ rfl rfl Tryz.func58 (by decide) rfl (VwL.refl _ _) (where_s l (nxk l k) hl hnk) | exact Evl_call 59 Tryz.f59 _ _ rfl rfl Tryz.func59 (by decide) rfl (VwL.refl _ _) (ho))) | (apply Evl_x; (case hs => (intro _ _ h; cases h)); (case hx => rfl); (case hrun => (intro w; simp [wtb, AV.val, go_sem]; (try go_bits); rfl)))))); (case hT => ((try simp (disch := omega) only [wtn, List.take_length, nxk_cast, List.append_eq, List.foldl_cons, List.foldl_nil, List.map_cons, List.map_nil, Nat.reduceAdd, Nat.reduceMul, Nat.reduceSub, ↓reduceIte, Nat.reduceEqDiff]); rfl))) | (refine awpL_cons rfl ?_; (((refine Stp_k 16 rfl ?_; ((refine Stp_store _ _ _ _ _ _ _ rfl rfl FBox.out HSize.out (by first | rfl | fail) (by first | exact Nat.le_of_ble_eq_true rfl | fail) ?_)))); apply awpL_cong; (case hT => ((try simp (disch := omega) only [wtn, List.take_length, nxk_cast, List.append_eq, List.foldl_cons, List.foldl_nil, List.map_cons, List.map_nil, Nat.reduceAdd, Nat.reduceMul, Nat.reduceSub, ↓reduceIte, Nat.reduceEqDiff]); rfl)); (case hH => ((try simp (disch := omega) only [wtn, List.take_length, nxk_cast, List.append_eq, List.foldl_cons, List.foldl_nil, List.map_cons, List.map_nil, Nat.reduceAdd, Nat.reduceMul, Nat.reduceSub, ↓reduceIte, Nat.reduceEqDiff]); rfl)))) | fail))
      rw [hb.out]
      refine endA_ret _ _ (Res2 rfl (RV.tmp _) (RV.cell 1 rfl rfl HAgg.out (by simp) (by simp)) (Weak.mk' [_, _] [] (List.Perm.refl _) VwHs.nil (VwL.cons Vw.nil (VwL.refl _ _)))) ?_
      exact ⟨rfl, rfl⟩
    | ok x =>
      obtain ⟨a, t, m⟩ := x
      rw [h1] at ho
      simp only [oneA] at ho
      obtain ⟨g1, g2, g3, g4⟩ := one_le h1
      simp only [List.length_drop] at g1 g2 g3
      by_cases hf : 2000 ≤ ts.length
      · have hb := Lib.hid (hs'.out.full hc2 (by rw [← hc1]; exact h1) hf)
        clear hc1 hc2 h1
        (repeat' (first | with_reducible (first | refine awp_seq ?_ | refine awp_region ?_ | refine awp_block ?_ | refine awp_ret ?_ | refine awp_skip ?_ | refine awpL_nil ?_ | refine thenA_normal ?_ | refine thenA_ret ?_ | refine inBlockA_ret ?_) | (refine awp_cond _ rfl (fun h => ?_) (fun h => ?_) <;> first | (exact absurd h (by decide)) | ((try (simp only [whn] at h)); first | (exfalso; omega; done) | skip)) | ((first | apply awpL_evl2 rfl | apply awpL_g2 _ _ rfl rfl rfl); (case h => ((try (intro (hp : (_ : Bool) = true); ((try simp only [] at hp); skip; skip))); (first | (apply Evl_k 0 rfl; (first | exact Evl_mv _ rfl | exact Evl_as _ rfl)) | (apply Evl_k 1 rfl; (exact Evl_pickt _ _ _ rfl rfl)) | (apply Evl_k 2 rfl; (exact Evl_extract _ _ _ _ rfl rfl rfl)) | (apply Evl_k 9 rfl; (exact Evl_slice_str _ _ _ _ _ _ _ rfl rfl (by kernel_rfl) (by first | exact .inr ⟨_, _, rfl, rfl⟩ | fail) (by first | exact .inl ⟨rfl, rfl⟩ | fail) (by omega) (by omega))) | (apply Evl_k 10 rfl; (exact Evl_build _ _ _ _ _ rfl HPl.out (by first | rfl | fail) rfl)) | (apply Evl_k 11 rfl; (first | exact Evl_call 57 Tryz.f57 _ _ rfl rfl Tryz.func57 (by decide) rfl (VwL.refl _ _) (skip_s (l.drop k) (by simp; omega)) | exact Evl_call 58 Tryz.f58 _ _ rfl rfl Tryz.func58 (by decide) rfl (VwL.refl _ _) (where_s l (nxk l k) hl hnk) | exact Evl_call 59 Tryz.f59 _ _ rfl rfl Tryz.func59 (by decide) rfl (VwL.refl _ _) (ho))) | (apply Evl_x; (case hs => (intro _ _ h; cases h)); (case hx => rfl); (case hrun => (intro w; simp [wtb, AV.val, go_sem]; (try go_bits); rfl)))))); (case hT => ((try simp (disch := omega) only [wtn, List.take_length, nxk_cast, List.append_eq, List.foldl_cons, List.foldl_nil, List.map_cons, List.map_nil, Nat.reduceAdd, Nat.reduceMul, Nat.reduceSub, ↓reduceIte, Nat.reduceEqDiff]); rfl))) | (refine awpL_cons rfl ?_; (((refine Stp_k 16 rfl ?_; ((refine Stp_store _ _ _ _ _ _ _ rfl rfl FBox.out HSize.out (by first | rfl | fail) (by first | exact Nat.le_of_ble_eq_true rfl | fail) ?_)))); apply awpL_cong; (case hT => ((try simp (disch := omega) only [wtn, List.take_length, nxk_cast, List.append_eq, List.foldl_cons, List.foldl_nil, List.map_cons, List.map_nil, Nat.reduceAdd, Nat.reduceMul, Nat.reduceSub, ↓reduceIte, Nat.reduceEqDiff]); rfl)); (case hH => ((try simp (disch := omega) only [wtn, List.take_length, nxk_cast, List.append_eq, List.foldl_cons, List.foldl_nil, List.map_cons, List.map_nil, Nat.reduceAdd, Nat.reduceMul, Nat.reduceSub, ↓reduceIte, Nat.reduceEqDiff]); rfl)))) | fail))
        rw [hb.out]
        refine endA_ret _ _ (Res2 rfl (RV.tmp _) (RV.cell 1 rfl rfl HAgg.out (by simp) (by simp)) (Weak.mk' [_, _] [] (List.Perm.refl _) VwHs.nil (VwL.cons Vw.nil (VwL.refl _ _)))) ?_
        exact ⟨rfl, rfl⟩
      · have hb := Lib.hid (hs'.out.next hc2 (by rw [← hc1]; exact h1) (by omega))
        clear hc1 hc2 h1
        (repeat' (first | with_reducible (first | refine awp_seq ?_ | refine awp_region ?_ | refine awp_block ?_ | refine awp_skip ?_ | refine awpL_nil ?_ | refine thenA_normal ?_ | refine inBlockA_normal ?_) | (refine awp_cond _ rfl (fun h => ?_) (fun h => ?_) <;> first | (exact absurd h (by decide)) | ((try (simp only [whn] at h)); first | (exfalso; omega; done) | skip)) | ((first | apply awpL_evl2 rfl | apply awpL_g2 _ _ rfl rfl rfl); (case h => ((try (intro (hp : (_ : Bool) = true); ((try simp only [] at hp); skip; skip))); (first | (apply Evl_k 0 rfl; (first | exact Evl_mv _ rfl | exact Evl_as _ rfl)) | (apply Evl_k 1 rfl; (exact Evl_pickt _ _ _ rfl rfl)) | (apply Evl_k 2 rfl; (exact Evl_extract _ _ _ _ rfl rfl rfl)) | (apply Evl_k 9 rfl; (exact Evl_slice_str _ _ _ _ _ _ _ rfl rfl (by kernel_rfl) (by first | exact .inr ⟨_, _, rfl, rfl⟩ | fail) (by first | exact .inl ⟨rfl, rfl⟩ | fail) (by omega) (by omega))) | (apply Evl_k 10 rfl; (exact Evl_build _ _ _ _ _ rfl HPl.out (by first | rfl | fail) rfl)) | (apply Evl_k 11 rfl; (first | exact Evl_call 57 Tryz.f57 _ _ rfl rfl Tryz.func57 (by decide) rfl (VwL.refl _ _) (skip_s (l.drop k) (by simp; omega)) | exact Evl_call 58 Tryz.f58 _ _ rfl rfl Tryz.func58 (by decide) rfl (VwL.refl _ _) (where_s l (nxk l k) hl hnk) | exact Evl_call 59 Tryz.f59 _ _ rfl rfl Tryz.func59 (by decide) rfl (VwL.refl _ _) (ho))) | (apply Evl_x; (case hs => (intro _ _ h; cases h)); (case hx => rfl); (case hrun => (intro w; simp [wtb, AV.val, go_sem]; (try go_bits); rfl)))))); (case hT => ((try simp (disch := omega) only [wtn, List.take_length, nxk_cast, List.append_eq, List.foldl_cons, List.foldl_nil, List.map_cons, List.map_nil, Nat.reduceAdd, Nat.reduceMul, Nat.reduceSub, ↓reduceIte, Nat.reduceEqDiff]); rfl))) | (refine awpL_cons rfl ?_; ((first | (refine Stp_k 13 rfl ?_; ((refine Stp_append _ _ _ _ _ _ _ _ _ _ _ _ _ _ rfl rfl FRow.out (Src.row _ rfl FRow.out) HElem.out (by first | rfl | fail) (fits _ _ (by omega) (by decide)) (fun ad cap => ?_)))) | (refine Stp_k 17 rfl ?_; ((refine Stp_buildSlice _ _ _ _ _ _ _ _ rfl HElem.out (by first | rfl | fail) rfl (by decide) rfl (fun b => ?_))))); apply awpL_cong; (case hT => ((try simp (disch := omega) only [wtn, List.take_length, nxk_cast, List.append_eq, List.foldl_cons, List.foldl_nil, List.map_cons, List.map_nil, Nat.reduceAdd, Nat.reduceMul, Nat.reduceSub, ↓reduceIte, Nat.reduceEqDiff]); rfl)); (case hH => ((try simp (disch := omega) only [wtn, List.take_length, nxk_cast, List.append_eq, List.foldl_cons, List.foldl_nil, List.map_cons, List.map_nil, Nat.reduceAdd, Nat.reduceMul, Nat.reduceSub, ↓reduceIte, Nat.reduceEqDiff]); rfl)))) | fail))
        refine ⟨(nxk l k + m, _, ad, cap), by simp only; omega, hb.out, ?_⟩
        simp only [ta_app, List.length_append, List.length_cons, List.length_nil]
        exact (Weak.mk' [_] [_, _] (List.Perm.refl _) (VwHs.refl _ _) (by (repeat' (first | exact VwL.nil | (refine VwL.cons ?_ ?_) | exact Vw.refl _ | exact Vw.top _ | fail))))
end Go.Proofs.YtkhhlmonhapmaaaGreatDoor
