import Derived.Test.YtkhhlmonhapmaaaGreatDoorW14
import Derived.Test.YtkhhlmonhapmaaaGreatDoorW13
/- The reference of the lexer: one, a sign; whatever. -/
namespace Go.Proofs.YtkhhlmonhapmaaaGreatDoor
open Go.RowKit
set_option linter.unusedSimpArgs false
set_option linter.unusedVariables false
set_option maxRecDepth 100000 in
set_option maxHeartbeats 8000000 in
theorem rone_sign123 (c : UInt8) (r : List UInt8) (w : World) (hl : r.length ≤ 999999) (h : isLet c = false) (h2 : isDig c = false) (h3 : c.toNat = 123) : Calls Tryz.prog 59 #[.string (bs (c :: r))] w fun e w' => e = .returned (oner (one (c :: r))) ∧ Ext w w' := by
  rw [one_sign c r h h2 (by omega)]
  have y0 : ((c.toNat : Int) == 34) = false := by first | (rw [beq_eq_false_iff_ne]; omega) | fail
  have y1 : ((c.toNat : Int) == 47) = false := by first | (rw [beq_eq_false_iff_ne]; omega) | fail
  have y2 : ((c.toNat : Int) == 123) = true := by first | (rw [beq_iff_eq]; omega) | fail
  have y3 : ((c.toNat : Int) == 125) = false := by first | (rw [beq_eq_false_iff_ne]; omega) | fail
  have y4 : ((c.toNat : Int) == 44) = false := by first | (rw [beq_eq_false_iff_ne]; omega) | fail
  have y5 : ((c.toNat : Int) == 61) = false := by first | (rw [beq_eq_false_iff_ne]; omega) | fail
  clear h3
  go_enter Tryz.func59, Tryz.ntmps59
  go_wp2_with fail
  refine Calls.mono (rletter_any c _) ?_
  rintro e w1 ⟨rfl, rfl⟩
  rw [h]
  go_wp2_with fail
  refine Calls.mono (rdigit_any c _) ?_
  rintro e w1 ⟨rfl, rfl⟩
  rw [h2]
  go_wp2_with fail
  all_goals (try (go_quiet (fail)))
  all_goals (try go_wp2_with fail)
  all_goals refine bodyPost_ret (by simp [results, Tryz.results59, go_sem]; try rfl) rfl ?_
  all_goals exact ⟨by simp [oner], (by repeat (first | (with_reducible exact Below.refl _ _) | (with_reducible refine Below.drewN ?_ _) | fail))⟩
set_option maxRecDepth 100000 in
set_option maxHeartbeats 8000000 in
theorem rone_sign125 (c : UInt8) (r : List UInt8) (w : World) (hl : r.length ≤ 999999) (h : isLet c = false) (h2 : isDig c = false) (h3 : c.toNat = 125) : Calls Tryz.prog 59 #[.string (bs (c :: r))] w fun e w' => e = .returned (oner (one (c :: r))) ∧ Ext w w' := by
  rw [one_sign c r h h2 (by omega)]
  have y0 : ((c.toNat : Int) == 34) = false := by first | (rw [beq_eq_false_iff_ne]; omega) | fail
  have y1 : ((c.toNat : Int) == 47) = false := by first | (rw [beq_eq_false_iff_ne]; omega) | fail
  have y2 : ((c.toNat : Int) == 123) = false := by first | (rw [beq_eq_false_iff_ne]; omega) | fail
  have y3 : ((c.toNat : Int) == 125) = true := by first | (rw [beq_iff_eq]; omega) | fail
  have y4 : ((c.toNat : Int) == 44) = false := by first | (rw [beq_eq_false_iff_ne]; omega) | fail
  have y5 : ((c.toNat : Int) == 61) = false := by first | (rw [beq_eq_false_iff_ne]; omega) | fail
  clear h3
  go_enter Tryz.func59, Tryz.ntmps59
  go_wp2_with fail
  refine Calls.mono (rletter_any c _) ?_
  rintro e w1 ⟨rfl, rfl⟩
  rw [h]
  go_wp2_with fail
  refine Calls.mono (rdigit_any c _) ?_
  rintro e w1 ⟨rfl, rfl⟩
  rw [h2]
  go_wp2_with fail
  all_goals (try (go_quiet (fail)))
  all_goals (try go_wp2_with fail)
  all_goals refine bodyPost_ret (by simp [results, Tryz.results59, go_sem]; try rfl) rfl ?_
  all_goals exact ⟨by simp [oner], (by repeat (first | (with_reducible exact Below.refl _ _) | (with_reducible refine Below.drewN ?_ _) | fail))⟩
set_option maxRecDepth 100000 in
set_option maxHeartbeats 8000000 in
theorem rone_sign44 (c : UInt8) (r : List UInt8) (w : World) (hl : r.length ≤ 999999) (h : isLet c = false) (h2 : isDig c = false) (h3 : c.toNat = 44) : Calls Tryz.prog 59 #[.string (bs (c :: r))] w fun e w' => e = .returned (oner (one (c :: r))) ∧ Ext w w' := by
  rw [one_sign c r h h2 (by omega)]
  have y0 : ((c.toNat : Int) == 34) = false := by first | (rw [beq_eq_false_iff_ne]; omega) | fail
  have y1 : ((c.toNat : Int) == 47) = false := by first | (rw [beq_eq_false_iff_ne]; omega) | fail
  have y2 : ((c.toNat : Int) == 123) = false := by first | (rw [beq_eq_false_iff_ne]; omega) | fail
  have y3 : ((c.toNat : Int) == 125) = false := by first | (rw [beq_eq_false_iff_ne]; omega) | fail
  have y4 : ((c.toNat : Int) == 44) = true := by first | (rw [beq_iff_eq]; omega) | fail
  have y5 : ((c.toNat : Int) == 61) = false := by first | (rw [beq_eq_false_iff_ne]; omega) | fail
  clear h3
  go_enter Tryz.func59, Tryz.ntmps59
  go_wp2_with fail
  refine Calls.mono (rletter_any c _) ?_
  rintro e w1 ⟨rfl, rfl⟩
  rw [h]
  go_wp2_with fail
  refine Calls.mono (rdigit_any c _) ?_
  rintro e w1 ⟨rfl, rfl⟩
  rw [h2]
  go_wp2_with fail
  all_goals (try (go_quiet (fail)))
  all_goals (try go_wp2_with fail)
  all_goals refine bodyPost_ret (by simp [results, Tryz.results59, go_sem]; try rfl) rfl ?_
  all_goals exact ⟨by simp [oner], (by repeat (first | (with_reducible exact Below.refl _ _) | (with_reducible refine Below.drewN ?_ _) | fail))⟩
set_option maxRecDepth 100000 in
set_option maxHeartbeats 8000000 in
theorem rone_sign61 (c : UInt8) (r : List UInt8) (w : World) (hl : r.length ≤ 999999) (h : isLet c = false) (h2 : isDig c = false) (h3 : c.toNat = 61) : Calls Tryz.prog 59 #[.string (bs (c :: r))] w fun e w' => e = .returned (oner (one (c :: r))) ∧ Ext w w' := by
  rw [one_sign c r h h2 (by omega)]
  have y0 : ((c.toNat : Int) == 34) = false := by first | (rw [beq_eq_false_iff_ne]; omega) | fail
  have y1 : ((c.toNat : Int) == 47) = false := by first | (rw [beq_eq_false_iff_ne]; omega) | fail
  have y2 : ((c.toNat : Int) == 123) = false := by first | (rw [beq_eq_false_iff_ne]; omega) | fail
  have y3 : ((c.toNat : Int) == 125) = false := by first | (rw [beq_eq_false_iff_ne]; omega) | fail
  have y4 : ((c.toNat : Int) == 44) = false := by first | (rw [beq_eq_false_iff_ne]; omega) | fail
  have y5 : ((c.toNat : Int) == 61) = true := by first | (rw [beq_iff_eq]; omega) | fail
  clear h3
  go_enter Tryz.func59, Tryz.ntmps59
  go_wp2_with fail
  refine Calls.mono (rletter_any c _) ?_
  rintro e w1 ⟨rfl, rfl⟩
  rw [h]
  go_wp2_with fail
  refine Calls.mono (rdigit_any c _) ?_
  rintro e w1 ⟨rfl, rfl⟩
  rw [h2]
  go_wp2_with fail
  all_goals (try (go_quiet (fail)))
  all_goals (try go_wp2_with fail)
  all_goals refine bodyPost_ret (by simp [results, Tryz.results59, go_sem]; try rfl) rfl ?_
  all_goals exact ⟨by simp [oner], (by repeat (first | (with_reducible exact Below.refl _ _) | (with_reducible refine Below.drewN ?_ _) | fail))⟩
set_option maxRecDepth 100000 in
set_option maxHeartbeats 8000000 in
theorem rone_bad (c : UInt8) (r : List UInt8) (w : World) (hl : r.length ≤ 999999) (h : isLet c = false) (h2 : isDig c = false) (h3 : c.toNat ≠ 34) (h4 : c.toNat ≠ 47) (h5 : ¬(c.toNat = 123 ∨ c.toNat = 125 ∨ c.toNat = 44 ∨ c.toNat = 61)) : Calls Tryz.prog 59 #[.string (bs (c :: r))] w fun e w' => e = .returned (oner (one (c :: r))) ∧ Ext w w' := by
  rw [one_bad c r h h2 h3 h4 h5]
  have y0 : ((c.toNat : Int) == 34) = false := by first | (rw [beq_eq_false_iff_ne]; omega) | fail
  have y1 : ((c.toNat : Int) == 47) = false := by first | (rw [beq_eq_false_iff_ne]; omega) | fail
  have y2 : ((c.toNat : Int) == 123) = false := by first | (rw [beq_eq_false_iff_ne]; omega) | fail
  have y3 : ((c.toNat : Int) == 125) = false := by first | (rw [beq_eq_false_iff_ne]; omega) | fail
  have y4 : ((c.toNat : Int) == 44) = false := by first | (rw [beq_eq_false_iff_ne]; omega) | fail
  have y5 : ((c.toNat : Int) == 61) = false := by first | (rw [beq_eq_false_iff_ne]; omega) | fail
  clear h3 h4 h5
  go_enter Tryz.func59, Tryz.ntmps59
  go_wp2_with fail
  refine Calls.mono (rletter_any c _) ?_
  rintro e w1 ⟨rfl, rfl⟩
  rw [h]
  go_wp2_with fail
  refine Calls.mono (rdigit_any c _) ?_
  rintro e w1 ⟨rfl, rfl⟩
  rw [h2]
  go_wp2_with fail
  refine bodyPost_ret (by simp [results, Tryz.results59, go_sem]; try rfl) rfl ?_
  exact ⟨by simp [oner, bs_nil], (by repeat (first | (with_reducible exact Below.refl _ _) | fail))⟩
set_option maxRecDepth 100000 in
set_option maxHeartbeats 8000000 in
theorem rone_any (c : UInt8) (r : List UInt8) (w : World) (hl : r.length ≤ 999999)  : Calls Tryz.prog 59 #[.string (bs (c :: r))] w fun e w' => e = .returned (oner (one (c :: r))) ∧ Ext w w' := by
  cases h : isLet c with
  | true => exact rone_word c r w hl h
  | false =>
    cases h2 : isDig c with
    | true => exact rone_num c r w hl h h2
    | false =>
      by_cases h3 : c.toNat = 34
      · exact rone_str c r w hl h h2 h3
      by_cases h4 : c.toNat = 47
      · exact rone_pat c r w hl h h2 h4
      by_cases h5 : c.toNat = 123
      · exact rone_sign123 c r w hl h h2 h5
      by_cases h6 : c.toNat = 125
      · exact rone_sign125 c r w hl h h2 h6
      by_cases h7 : c.toNat = 44
      · exact rone_sign44 c r w hl h h2 h7
      by_cases h8 : c.toNat = 61
      · exact rone_sign61 c r w hl h h2 h8
      exact rone_bad c r w hl h h2 h3 h4 (by omega)
end Go.Proofs.YtkhhlmonhapmaaaGreatDoor
/- Of the tokens of a text: how lexGo unfolds. No program in sight. -/
namespace Go.Proofs.YtkhhlmonhapmaaaGreatDoor
open Go.RowKit
set_option linter.unusedSimpArgs false
set_option linter.unusedVariables false
theorem lexGo_end (p : Nat × Nat) (n : Nat) (l : List UInt8) (h : l.drop (skp l) = []) : lexGo p n l = .ok [⟨6, [], (plc p l).1, (plc p l).2⟩] := by
  rw [lexGo]
  split
  · rfl
  · rename_i h2; rw [h] at h2; cases h2
theorem lexGo_bad (p : Nat × Nat) (n : Nat) (l : List UInt8) (c : UInt8) (r : List UInt8) (e : Int) (h : l.drop (skp l) = c :: r) (h1 : one (c :: r) = .error e) : lexGo p n l = .error ⟨e, (plc p (l.take (skp l))).1, (plc p (l.take (skp l))).2⟩ := by
  rw [lexGo]
  split
  · rename_i h2; rw [h] at h2; cases h2
  · rename_i c' r' h2
    rw [h] at h2; cases h2
    rw [h1]
theorem lexGo_full (p : Nat × Nat) (n : Nat) (l : List UInt8) (c : UInt8) (r : List UInt8) (x : Int × List UInt8 × Nat) (h : l.drop (skp l) = c :: r) (h1 : one (c :: r) = .ok x) (hn : 2000 ≤ n) : lexGo p n l = .error ⟨1, (plc p (l.take (skp l))).1, (plc p (l.take (skp l))).2⟩ := by
  rw [lexGo]
  split
  · rename_i h2; rw [h] at h2; cases h2
  · rename_i c' r' h2
    rw [h] at h2; cases h2
    rw [h1]
    simp only [if_pos hn]
theorem lexGo_one (p : Nat × Nat) (n : Nat) (l : List UInt8) (c : UInt8) (r : List UInt8) (k : Int) (t : List UInt8) (m : Nat) (h : l.drop (skp l) = c :: r) (h1 : one (c :: r) = .ok (k, t, m)) (hm : 1 ≤ m) (hn : n < 2000) :
    lexGo p n l = (lexGo (plc p (l.take (skp l + m))) (n + 1) ((c :: r).drop m)).map (⟨k, t, (plc p (l.take (skp l))).1, (plc p (l.take (skp l))).2⟩ :: ·) := by
  rw [lexGo]
  split
  · rename_i h2; rw [h] at h2; cases h2
  · rename_i c' r' h2
    rw [h] at h2; cases h2
    rw [h1]
    simp only [if_neg (show ¬ 2000 ≤ n by omega), show max m 1 = m from by omega]
end Go.Proofs.YtkhhlmonhapmaaaGreatDoor
/- The tokens of a text, one after the other: what lies read. No program in sight. -/
namespace Go.Proofs.YtkhhlmonhapmaaaGreatDoor
open Go.RowKit
set_option linter.unusedSimpArgs false
set_option linter.unusedVariables false
theorem plc_app' (p : Nat × Nat) (a b : List UInt8) : plc p (a ++ b) = plc (plc p a) b := by
  induction a generalizing p with
  | nil => rfl
  | cons c a ih => simp only [List.cons_append, plc]; exact ih _
theorem plc_at (l : List UInt8) (k s : Nat) : plc (plc (1, 1) (l.take k)) ((l.drop k).take s) = plc (1, 1) (l.take (k + s)) := by
  rw [← plc_app', ← List.take_add]
theorem skp_le' (l : List UInt8) : skp l ≤ l.length := by
  induction h : l.length using Nat.strongRecOn generalizing l with
  | _ n ih =>
    cases l with
    | nil => simp [skp_nil]
    | cons c r =>
      by_cases h1 : c.toNat = 32 ∨ c.toNat = 9 ∨ c.toNat = 10 ∨ c.toNat = 13
      · rw [skp_blank c r h1]
        have := ih r.length (by simp at h; omega) r rfl
        simp at h; omega
      · by_cases h2 : c.toNat = 35
        · rw [skp_cmt c r h2]
          have h3 := cmt_yes c r (by omega)
          have := ih ((c :: r).drop (cmt (c :: r))).length (by simp at h ⊢; omega) _ rfl
          have h4 := cmt_le (c :: r)
          rw [List.length_drop] at this
          omega
        · rw [skp_no c r h1 h2]; exact Nat.zero_le _
theorem one_le {l : List UInt8} {x : Int × List UInt8 × Nat} (h : one l = .ok x) : 1 ≤ x.2.2 ∧ x.2.2 ≤ l.length ∧ x.2.1.length ≤ l.length ∧ x.1 ≠ 6 := by
  cases l with
  | nil => simp [one] at h
  | cons c r =>
    have hs := fun p => spn_le p (c :: r)
    simp only [one] at h
    split at h
    · cases h
      rename_i hc
      have := spn_yes isWrd c r (by simp [isWrd, hc])
      refine ⟨by simp only; omega, hs _, by simp only [List.length_take]; omega, by simp⟩
    · split at h
      · rename_i hc
        have := spn_yes isDig c r hc
        split at h
        · cases h
        · cases h; refine ⟨by simp only; omega, hs _, by simp only [List.length_take]; omega, by simp⟩
      · split at h
        · cases hq : quo r with
          | none => rw [hq] at h; cases h
          | some y =>
            rw [hq] at h; cases h
            have := quo_le r y hq
            simp only [List.length_cons]
            refine ⟨by omega, by omega, by omega, by simp⟩
        · split at h
          · cases hq : sla r with
            | none => rw [hq] at h; cases h
            | some y =>
              rw [hq] at h; cases h
              have := sla_le r y hq
              simp only [List.length_cons]
              refine ⟨by omega, by omega, by omega, by simp⟩
          · split at h
            · cases h; simp
            · cases h
structure LxAt (l : List UInt8) (k : Nat) (ts : List Tok) : Prop where
  le : k ≤ l.length
  cnt : ts.length ≤ 2000
  eq : lexGo (1, 1) 0 l = (lexGo (plc (1, 1) (l.take k)) ts.length (l.drop k)).map (ts ++ ·)
theorem except_map_id {ε α : Type} (x : Except ε α) (f : α → α) (h : ∀ a, f a = a) : x.map f = x := by cases x <;> simp [Except.map, h]
theorem LxAt.start (l : List UInt8) : LxAt l 0 [] where
  le := Nat.zero_le _
  cnt := Nat.zero_le _
  eq := by simp [plc, except_map_id]
section
variable {l : List UInt8} {k : Nat} {ts : List Tok}
def nxk (l : List UInt8) (k : Nat) : Nat := k + skp (l.drop k)
theorem nxk_le (h : k ≤ l.length) : nxk l k ≤ l.length := by
  have := skp_le' (l.drop k)
  rw [List.length_drop] at this
  unfold nxk; omega
theorem LxAt.fin (h : LxAt l k ts) (he : l.length ≤ nxk l k) : lexGo (1, 1) 0 l = .ok (ts ++ [⟨6, [], (plc (1, 1) (l.take (nxk l k))).1, (plc (1, 1) (l.take (nxk l k))).2⟩]) := by
  have hd : (l.drop k).drop (skp (l.drop k)) = [] := by
    rw [List.drop_drop]; exact List.drop_eq_nil_of_le (by unfold nxk at he; omega)
  rw [h.eq, lexGo_end _ _ _ hd]
  have : plc (plc (1, 1) (l.take k)) (l.drop k) = plc (1, 1) (l.take (nxk l k)) := by
    have h2 := plc_at l k (l.length - k)
    rw [List.take_of_length_le (show (l.drop k).length ≤ l.length - k by rw [List.length_drop]; exact Nat.le_refl _), List.take_of_length_le (show l.length ≤ k + (l.length - k) by omega)] at h2
    rw [h2, List.take_of_length_le he]
  rw [this]; rfl
theorem LxAt.cons (h : LxAt l k ts) (he : nxk l k < l.length) : ∃ c r, l.drop (nxk l k) = c :: r ∧ (l.drop k).drop (skp (l.drop k)) = c :: r := by
  refine ⟨l[nxk l k], l.drop (nxk l k + 1), List.drop_eq_getElem_cons he, ?_⟩
  rw [List.drop_drop]; exact List.drop_eq_getElem_cons he
theorem LxAt.bad (h : LxAt l k ts) {c : UInt8} {r : List UInt8} (hc : (l.drop k).drop (skp (l.drop k)) = c :: r) {e : Int} (h1 : one (c :: r) = .error e) : lexGo (1, 1) 0 l = .error ⟨e, (plc (1, 1) (l.take (nxk l k))).1, (plc (1, 1) (l.take (nxk l k))).2⟩ := by
  rw [h.eq, lexGo_bad _ _ _ c r e hc h1, plc_at]; rfl
theorem LxAt.full (h : LxAt l k ts) {c : UInt8} {r : List UInt8} (hc : (l.drop k).drop (skp (l.drop k)) = c :: r) {x : Int × List UInt8 × Nat} (h1 : one (c :: r) = .ok x) (hn : 2000 ≤ ts.length) : lexGo (1, 1) 0 l = .error ⟨1, (plc (1, 1) (l.take (nxk l k))).1, (plc (1, 1) (l.take (nxk l k))).2⟩ := by
  rw [h.eq, lexGo_full _ _ _ c r x hc h1 hn, plc_at]; rfl
theorem LxAt.next (h : LxAt l k ts) {c : UInt8} {r : List UInt8} (hc : (l.drop k).drop (skp (l.drop k)) = c :: r) {a : Int} {t : List UInt8} {m : Nat} (h1 : one (c :: r) = .ok (a, t, m)) (hn : ts.length < 2000) :
    LxAt l (nxk l k + m) (ts ++ [⟨a, t, (plc (1, 1) (l.take (nxk l k))).1, (plc (1, 1) (l.take (nxk l k))).2⟩]) := by
  obtain ⟨g1, g2, g3, g4⟩ := one_le h1
  simp only at g1 g2
  have hlen := congrArg List.length hc
  simp only [List.length_drop] at hlen
  have hle := h.le
  refine ⟨by unfold nxk; omega, by simp; omega, ?_⟩
  rw [h.eq, lexGo_one _ _ _ c r a t m hc h1 g1 hn, plc_at, plc_at]
  have e1 : (c :: r).drop m = l.drop (nxk l k + m) := by rw [← hc, List.drop_drop, List.drop_drop]; congr 1; unfold nxk; omega
  rw [e1, show k + (skp (l.drop k) + m) = nxk l k + m from by unfold nxk; omega]
  simp only [List.length_append, List.length_cons, List.length_nil, Nat.zero_add]
  cases lexGo (plc (1, 1) (l.take (nxk l k + m))) (ts.length + 1) (l.drop (nxk l k + m)) with
  | error e => rfl
  | ok y => simp only [Except.map, nxk, List.append_assoc, List.singleton_append]
end
theorem lexGo_ok : ∀ (n : Nat) (p : Nat × Nat) (i : Nat) (l : List UInt8) (ts : List Tok), l.length ≤ n → lexGo p i l = .ok ts → ∃ qs e, ts = qs ++ [e] ∧ e.kind = 6 ∧ (∀ t ∈ qs, t.kind ≠ 6) ∧ ∀ t ∈ ts, t.text.length ≤ l.length
  | n, p, i, l, ts, hn, h => by
    cases hd : l.drop (skp l) with
    | nil =>
      rw [lexGo_end p i l hd] at h; cases h
      exact ⟨[], _, rfl, rfl, by simp, by simp⟩
    | cons c r =>
      have hlen := congrArg List.length hd
      simp only [List.length_drop, List.length_cons] at hlen
      cases h1 : one (c :: r) with
      | error e => rw [lexGo_bad p i l c r e hd h1] at h; cases h
      | ok x =>
        by_cases hi : 2000 ≤ i
        · rw [lexGo_full p i l c r x hd h1 hi] at h; cases h
        · obtain ⟨a, t, m⟩ := x
          obtain ⟨g1, g2, g3, g4⟩ := one_le h1
          simp only at g1 g2 g3 g4
          rw [lexGo_one p i l c r a t m hd h1 g1 (by omega)] at h
          cases hr : lexGo (plc p (l.take (skp l + m))) (i + 1) ((c :: r).drop m) with
          | error e => rw [hr] at h; cases h
          | ok y =>
            rw [hr] at h
            simp only [Except.map] at h
            cases h
            cases n with
            | zero => omega
            | succ n =>
              obtain ⟨qs, e, rfl, he, has, ht⟩ := lexGo_ok n _ _ _ y (by simp only [List.length_drop, List.length_cons]; omega) hr
              refine ⟨_ :: qs, e, rfl, he, ?_, ?_⟩
              · intro t ht
                rcases List.mem_cons.1 ht with rfl | ht
                · exact g4
                · exact has t ht
              · intro t ht2
                rcases List.mem_cons.1 ht2 with rfl | ht2
                · show t.length ≤ l.length
                  rw [List.length_cons] at g3; omega
                · have := ht t ht2
                  rw [List.length_drop, List.length_cons] at this; omega
end Go.Proofs.YtkhhlmonhapmaaaGreatDoor
