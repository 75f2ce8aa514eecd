import Derived.Test.YtkhhlmonhapmaaaGreatDoorW23
import Derived.Test.YtkhhlmonhapmaaaGreatDoorW26
/- LexerPlaces, in plain Lean: comments and blanks round a text; places ascend. No program in sight. -/
set_option linter.unusedSimpArgs false
set_option linter.unusedVariables false
namespace Go.Proofs.YtkhhlmonhapmaaaGreatDoor
open Go.RowKit
end Go.Proofs.YtkhhlmonhapmaaaGreatDoor
namespace Go.Proofs.YtkhhlmonhapmaaaGreatDoor
open Go.RowKit
def nls : List UInt8 → Nat
  | [] => 0
  | c :: r => (if c.toNat = 10 then 1 else 0) + nls r
theorem plc_nls : ∀ (l : List UInt8) (p : Nat × Nat), (plc p l).1 = p.1 + nls l
  | [], p => rfl
  | c :: r, p => by
    simp only [plc, nls]
    rw [plc_nls r]
    split <;> simp only <;> omega
theorem plc_nl (s : List UInt8) : plc (1, 1) (s ++ [10]) = (1 + (nls s + 1), 1) := by
  rw [plc_app']
  have := plc_nls s (1, 1)
  simp only at this
  show plc (if (10 : UInt8).toNat = 10 then ((plc (1, 1) s).1 + 1, 1) else _) [] = _
  rw [if_pos (by decide), this]
  simp only [plc, Nat.add_assoc]
theorem lexGo_more : ∀ (m : Nat) (l : List UInt8) (p : Nat × Nat) (n n' : Nat), l.length ≤ m → ∀ ts, lexGo p n l = .ok ts → lexGo p n' l = .ok ts ∨ ∃ f, lexGo p n' l = .error f ∧ f.code = 1
  | m, l, p, n, n', hm, ts, h => by
    cases hd : l.drop (skp l) with
    | nil => rw [lexGo_end p n l hd] at h; rw [lexGo_end p n' l hd]; exact .inl h
    | cons x r =>
      have hlen := congrArg List.length hd
      simp only [List.length_drop, List.length_cons] at hlen
      cases h1 : one (x :: r) with
      | error e => rw [lexGo_bad _ _ _ x r e hd h1] at h; cases h
      | ok z =>
        by_cases hn : 2000 ≤ n
        · rw [lexGo_full _ _ _ x r z hd h1 hn] at h; cases h
        · by_cases hn' : 2000 ≤ n'
          · rw [lexGo_full _ _ _ x r z hd h1 hn']; exact .inr ⟨_, rfl, rfl⟩
          · obtain ⟨a, b, k⟩ := z
            have g := one_le h1
            simp only [List.length_cons] at g
            rw [lexGo_one _ _ _ x r a b k hd h1 g.1 (by omega)] at h ⊢
            cases m with
            | zero => omega
            | succ m =>
              cases hr : lexGo (plc p (l.take (skp l + k))) (n + 1) ((x :: r).drop k) with
              | error f => rw [hr] at h; cases h
              | ok ys =>
                rw [hr] at h
                rcases lexGo_more m ((x :: r).drop k) _ (n + 1) (n' + 1) (by simp; omega) ys hr with h3 | ⟨f, h3, h4⟩
                · rw [h3]; exact .inl h
                · rw [h3]; exact .inr ⟨f, rfl, h4⟩
end Go.Proofs.YtkhhlmonhapmaaaGreatDoor
namespace Go.Proofs.YtkhhlmonhapmaaaGreatDoor
open Go.RowKit
/-! ### Faults have a code -/
section
variable {α β : Type} {ts : List Tok} {k : Nat}
def EC (x : Except Flt α) : Prop := ∀ f, x = .error f → f.code ≠ 0
theorem EC.err {f : Flt} (h : f.code ≠ 0) : EC (.error f : Except Flt α) := fun g e => by cases e; exact h
theorem EC.ok (a : α) : EC (.ok a : Except Flt α) := fun g e => by cases e
theorem EC.bind {x : Except Flt α} {g : α → Except Flt β} (h : EC x) (hg : ∀ a, EC (g a)) : EC (x >>= g) := by
  cases x with
  | error f => exact fun f' e => h f' (by cases e; rfl)
  | ok a => exact hg a
theorem EC.map {x : Except Flt α} {g : α → β} (h : EC x) : EC (x.map g) := by
  cases x with
  | error f => exact fun f' e => h f' (by cases e; rfl)
  | ok a => exact EC.ok _
theorem EC.ite {c : Prop} [Decidable c] {x y : Except Flt α} (h1 : EC x) (h2 : EC y) : EC (if c then x else y) := by split <;> assumption
theorem ec_take (kind : Int) (most : Nat) : EC (gTake ts k kind most) := EC.ite (EC.err (by simp [flt])) (EC.ite (EC.err (by simp [flt])) (EC.ok _))
theorem ec_num : EC (gNum ts k) := (ec_take _ _).map
theorem ec_sign (s : List UInt8) : EC (gSign ts k s) := EC.ite (EC.ok _) (EC.err (by simp [flt]))
theorem ec_name (full : Bool) : EC (gName ts k full) := (ec_take _ _).bind fun t => EC.ite (EC.err (by simp [flt])) (EC.ok _)
theorem ec_var (env : List (List UInt8 × List UInt8)) : EC (gVar ts k env) := (ec_name _).bind fun t => EC.ite (EC.err (by simp [flt])) ((ec_sign _).bind fun _ => (ec_take _ _).bind fun _ => EC.ok _)
theorem ec_need (out : List (List UInt8)) : EC (gNeed ts k out) := (ec_name _).bind fun t => EC.ite (EC.err (by simp [flt])) (EC.ok _)
theorem ec_rung (out : List (Int × Int)) : EC (gRung ts k out) := (ec_take _ _).bind fun t => EC.ite (EC.err (by simp [flt])) (EC.ite (EC.err (by simp [flt])) (ec_num.bind fun _ => EC.ok _))
theorem ec_list {el : Nat → List α → Except Flt α} {st : Nat} (he : ∀ k out, EC (el k out)) : ∀ (q k : Nat) (out : List α), ts.length - k ≤ q → EC (gList el st ts k out)
  | q, k, out, hq => by
    rw [gList]
    cases hx : el k out with
    | error f => exact EC.err (he k out f hx)
    | ok x =>
      simp only
      split
      · rename_i hc
        cases q with
        | zero => omega
        | succ q => exact ec_list he q _ _ (by omega)
      · exact EC.ok _
theorem ec_pol : EC (gPol ts k) := (ec_take _ _).bind fun t => EC.ite (EC.ok _) (EC.ite (EC.ok _) (EC.ite (EC.ok _) (EC.err (by simp [flt]))))
theorem ec_item (w : List UInt8) (j : JF) : EC (gItem ts k w j) := by
  unfold gItem
  refine EC.ite (ec_take _ _).map (EC.ite (ec_var _).map (EC.ite (ec_list (fun _ _ => ec_need _) _ _ _ (Nat.le_refl _)).map (EC.ite (ec_take _ _).map (EC.ite ec_pol.map (EC.ite ?_ (EC.ite ?_ (ec_list (fun _ _ => ec_rung _) _ _ _ (Nat.le_refl _)).map))))))
  · exact ec_num.bind fun _ => ec_num.bind fun _ => ec_num.bind fun _ => EC.ok _
  · exact ec_num.bind fun n => EC.ite (EC.err (by simp [flt])) (ec_num.bind fun _ => EC.ok _)
theorem ec_items (name : Tok) : ∀ (q k : Nat) (seen : List (List UInt8)) (j : JF), ts.length - k ≤ q → EC (gItems ts name k seen j)
  | q, k, seen, j, hq => by
    rw [gItems]
    refine EC.ite (EC.ite (EC.ok _) (EC.err (by simp [flt]))) (EC.ite (EC.err (by simp [flt])) (EC.ite (EC.err (by simp [flt])) ?_))
    cases hx : gItem ts (k + 1) (tkA ts k).text j with
    | error f => exact EC.err (ec_item _ _ f hx)
    | ok x =>
      simp only
      split
      · rename_i hc
        cases q with
        | zero => omega
        | succ q => exact ec_items name q _ _ _ (by omega)
      · exact EC.err (by simp [flt])
theorem ec_job (full : Bool) : EC (gJob ts k full) := (ec_take _ _).bind fun w => EC.ite (EC.err (by simp [flt])) ((ec_name _).bind fun t => (ec_sign _).bind fun _ => ec_items _ _ _ _ _ (Nat.le_refl _))
theorem ec_jobs : ∀ (q k : Nat) (out : List JF), ts.length - k ≤ q → EC (gJobs ts k out)
  | q, k, out, hq => by
    rw [gJobs]
    refine EC.ite (EC.ok _) ?_
    cases hx : gJob ts k (decide (32 ≤ out.length)) with
    | error f => exact EC.err (ec_job _ f hx)
    | ok x =>
      simp only
      split
      · rename_i hc
        cases q with
        | zero => omega
        | succ q => exact ec_jobs q _ _ (by omega)
      · exact EC.ok _
end
theorem ec_parse (s : List UInt8) : EC (gParse s) := by
  unfold gParse
  cases hx : lex s with
  | error f => exact EC.err ((lex_facts s).1 f hx)
  | ok ts => exact ec_jobs _ _ _ (Nat.le_refl _)
/-! ### As many jobs as braces, at most -/
def isBr (t : Tok) : Bool := t.kind == 5 && t.text == [123]
def bc (ts : List Tok) (k : Nat) : Nat := (ts.drop k).countP isBr
theorem bc_le {ts : List Tok} {k k' : Nat} (h : k ≤ k') : bc ts k' ≤ bc ts k := (List.drop_sublist_drop_left ts h).countP_le
theorem bc_one {ts : List Tok} {k : Nat} (h : gIs ts k [123] = true) : bc ts (k + 1) + 1 ≤ bc ts k := by
  have hk : k < ts.length := tkA_lt (by simp only [gIs, Bool.and_eq_true, beq_iff_eq] at h; rw [h.1]; decide)
  have e : tkA ts k = ts[k] := by simp [tkA, List.getD_eq_getElem?_getD, List.getElem?_eq_getElem hk]
  unfold bc
  rw [List.drop_eq_getElem_cons hk, List.countP_cons_of_pos (by rw [← e]; exact h)]
  exact Nat.le_refl _
theorem job_brace {ts : List Tok} {k : Nat} {full : Bool} {x : JF × Nat} (h : gJob ts k full = .ok x) : gIs ts (k + 2) [123] = true ∧ k + 3 ≤ x.2 := by
  unfold gJob at h
  cases h1 : gTake ts k 1 8192 with
  | error f => rw [h1] at h; cases h
  | ok w =>
    rw [h1] at h
    simp only [bind, Except.bind] at h
    split at h
    · cases h
    · cases h2 : gName ts (k + 1) full with
      | error f => rw [h2] at h; cases h
      | ok t =>
        rw [h2] at h
        simp only at h
        cases h3 : gSign ts (k + 2) [123] with
        | error f => rw [h3] at h; cases h
        | ok u =>
          rw [h3] at h
          have := gItems_lt t _ (k + 3) _ _ x (Nat.le_refl _) h
          refine ⟨?_, by omega⟩
          unfold gSign at h3
          split at h3
          · assumption
          · cases h3
theorem jobs_brace {ts : List Tok} : ∀ (q k : Nat) (out r : List JF), ts.length - k ≤ q → gJobs ts k out = .ok r → r.length ≤ out.length + bc ts k
  | q, k, out, r, hq, h => by
    rw [gJobs] at h
    split at h
    · cases h; omega
    cases hx : gJob ts k (decide (32 ≤ out.length)) with
    | error f => rw [hx] at h; cases h
    | ok x =>
      rw [hx] at h
      simp only at h
      split at h
      · rename_i hc
        cases q with
        | zero => omega
        | succ q =>
          have h1 := jobs_brace q x.2 _ r (by omega) h
          obtain ⟨h2, h3⟩ := job_brace hx
          have h4 : bc ts (k + 3) + 1 ≤ bc ts (k + 2) := bc_one h2
          have h5 := bc_le (ts := ts) (show k ≤ k + 2 by omega)
          have h6 := bc_le (ts := ts) h3
          simp only [List.length_append, List.length_cons, List.length_nil] at h1
          omega
      · cases h; omega
theorem brc_drop (l : List UInt8) (k : Nat) : brc (l.drop k) ≤ brc l := (List.drop_sublist k l).count_le _
theorem brc_cons (c : UInt8) (r : List UInt8) : brc (c :: r) = brc r + if c = 123 then 1 else 0 := by simp [brc, List.count_cons]
theorem one_brc {c : UInt8} {r : List UInt8} {a : Int} {b : List UInt8} {k : Nat} (h : one (c :: r) = .ok (a, b, k)) (h5 : a = 5) (hb : b = [123]) : c = 123 := by
  subst h5 hb
  unfold one at h
  simp only at h
  split at h
  · cases h
  split at h
  · split at h <;> cases h
  split at h
  · cases hq : quo r <;> rw [hq] at h <;> cases h
  split at h
  · cases hq : sla r <;> rw [hq] at h <;> cases h
  split at h
  · cases h; rfl
  · cases h
theorem lexGo_small : ∀ (m : Nat) (l : List UInt8) (p : Nat × Nat) (n : Nat), l.length ≤ m → ∀ ts, lexGo p n l = .ok ts → ts.length ≤ l.length + 1 ∧ bc ts 0 ≤ brc l
  | m, l, p, n, hm, ts, h => by
    cases hd : l.drop (skp l) with
    | nil => rw [lexGo_end p n l hd] at h; cases h; exact ⟨by simp, by simp [bc, isBr]⟩
    | cons x r =>
      have hlen := congrArg List.length hd
      simp only [List.length_drop, List.length_cons] at hlen
      cases h1 : one (x :: r) with
      | error e => rw [lexGo_bad _ _ _ x r e hd h1] at h; cases h
      | ok z =>
        by_cases hn : 2000 ≤ n
        · rw [lexGo_full _ _ _ x r z hd h1 hn] at h; cases h
        · obtain ⟨a, b, k⟩ := z
          have g := one_le h1
          simp only [List.length_cons] at g
          rw [lexGo_one _ _ _ x r a b k hd h1 g.1 (by omega)] at h
          cases m with
          | zero => omega
          | succ m =>
            cases hr : lexGo (plc p (l.take (skp l + k))) (n + 1) ((x :: r).drop k) with
            | error f => rw [hr] at h; cases h
            | ok ys =>
              rw [hr] at h
              obtain ⟨q1, q2⟩ := lexGo_small m ((x :: r).drop k) _ (n + 1) (by simp; omega) ys hr
              cases h
              have b1 := brc_drop l (skp l)
              rw [hd, brc_cons] at b1
              have b2 : brc ((x :: r).drop k) ≤ brc r := by
                obtain ⟨k', rfl⟩ : ∃ k', k = k' + 1 := ⟨k - 1, by omega⟩
                exact brc_drop r k'
              simp only [List.length_drop, List.length_cons] at q1 ⊢
              refine ⟨by omega, ?_⟩
              simp only [bc, List.drop_zero, List.countP_cons] at q2 ⊢
              by_cases hb : isBr ⟨a, b, (plc p (l.take (skp l))).1, (plc p (l.take (skp l))).2⟩ = true
              · have hx : x = 123 := by
                  simp only [isBr, Bool.and_eq_true, beq_iff_eq] at hb
                  exact one_brc h1 hb.1 hb.2
                rw [if_pos hx] at b1
                rw [if_pos hb]; omega
              · rw [if_neg hb]; omega
theorem lexGo_fit : ∀ (m : Nat) (l : List UInt8) (p : Nat × Nat) (n n' : Nat), l.length ≤ m → ∀ ts, lexGo p n l = .ok ts → n' + ts.length ≤ 2001 → lexGo p n' l = .ok ts := by
  intro m l p n n' hm ts h hl
  rcases lexGo_more m l p n n' hm ts h with h1 | ⟨f, h1, h2⟩
  · exact h1
  · exfalso
    clear h2
    induction m generalizing l p n n' ts f with
    | zero =>
      have : l = [] := List.eq_nil_of_length_eq_zero (by omega)
      subst this
      rw [lexGo_end _ _ [] (by rw [skp_nil]; rfl)] at h1; cases h1
    | succ m ih =>
      cases hd : l.drop (skp l) with
      | nil => rw [lexGo_end p n' l hd] at h1; cases h1
      | cons x r =>
        have hlen := congrArg List.length hd
        simp only [List.length_drop, List.length_cons] at hlen
        cases h3 : one (x :: r) with
        | error e => rw [lexGo_bad _ _ _ x r e hd h3] at h; cases h
        | ok z =>
          by_cases hn : 2000 ≤ n
          · rw [lexGo_full _ _ _ x r z hd h3 hn] at h; cases h
          · obtain ⟨a, b, k⟩ := z
            have g := one_le h3
            simp only [List.length_cons] at g
            rw [lexGo_one _ _ _ x r a b k hd h3 g.1 (by omega)] at h
            cases hr : lexGo (plc p (l.take (skp l + k))) (n + 1) ((x :: r).drop k) with
            | error e => rw [hr] at h; cases h
            | ok ys =>
              rw [hr] at h
              cases h
              obtain ⟨qs, e, rfl, -⟩ := lexGo_ok _ _ _ _ _ (Nat.le_refl _) hr
              simp only [List.length_cons, List.length_append, List.length_nil] at hl
              rw [lexGo_one _ _ _ x r a b k hd h3 g.1 (by omega)] at h1
              cases hs : lexGo (plc p (l.take (skp l + k))) (n' + 1) ((x :: r).drop k) with
              | ok zs => rw [hs] at h1; cases h1
              | error f' => exact ih ((x :: r).drop k) _ (n + 1) (n' + 1) (by simp; omega) _ hr (by simp; omega) f' hs
/-! ### The laws -/
theorem parse_kts {s s' : List UInt8} {ts us : List Tok} (hx : lex s = .ok ts) (hy : lex s' = .ok us) (hk : kts us = kts ts) : RE RL (gParse s) (gParse s') := by
  unfold gParse
  rw [hx, hy]
  exact (Sh.of_kts hk).jobs _ 0 [] [] (Nat.le_refl _) trivial
def bPre : List UInt8 := [35, 32, 120, 32, 123, 32, 125, 10, 10, 32, 32]
def bSuf : List UInt8 := [9, 35, 32, 101, 110, 100]
theorem skp_bPre (x : List UInt8) : skp (bPre ++ x) = bPre.length + skp x := by
  show skp (35 :: ([32, 120, 32, 123, 32, 125] ++ 10 :: 10 :: 32 :: 32 :: x)) = 11 + skp x
  have hc : cmt (35 :: ([32, 120, 32, 123, 32, 125] ++ 10 :: 10 :: 32 :: 32 :: x)) = 7 := by
    rw [← List.cons_append, cmt_app]; rfl
  rw [skp_cmt _ _ (by decide), hc]
  show 7 + skp (10 :: 10 :: 32 :: 32 :: x) = _
  rw [skp_blank _ _ (by decide), skp_blank _ _ (by decide), skp_blank _ _ (by decide), skp_blank _ _ (by decide)]; omega
theorem lex_bSuf (p : Nat × Nat) (n : Nat) : ∃ e : Tok, lexGo p n bSuf = .ok [e] ∧ e.kind = 6 ∧ e.text = [] := by
  have hc : skp bSuf = 6 := by
    show skp (9 :: [35, 32, 101, 110, 100]) = 6
    rw [skp_blank _ _ (by decide), skp_cmt _ _ (by decide), show cmt [35, 32, 101, 110, 100] = 5 from rfl]
    show 5 + skp [] + 1 = 6
    rw [skp_nil]
  rw [lexGo_end _ _ _ (by rw [hc]; rfl)]
  exact ⟨_, rfl, rfl, rfl⟩
theorem blanks_kts (s0 : List UInt8) (hl : s0.length ≤ 8000) (ts : List Tok) (h : lex (s0 ++ [10]) = .ok ts) : ∃ us, lex (bPre ++ (s0 ++ [10]) ++ bSuf) = .ok us ∧ kts us = kts ts := by
  have l1 : bPre.length = 11 := rfl
  have l2 : bSuf.length = 6 := rfl
  unfold lex at h ⊢
  rw [if_neg (by simp; omega)] at h
  rw [if_neg (by simp only [List.length_append, List.length_cons, List.length_nil]; omega), List.append_assoc, lexGo_pre _ _ _ _ (skp_bPre _), List.append_assoc]
  have hpl : plc (1, 1) bPre = (3, 3) := rfl
  rw [hpl]
  obtain ⟨k1, k2⟩ := lexGo_app [] s0.length s0 (1, 1) 0 (Nat.le_refl _)
  obtain ⟨j1, j2⟩ := lexGo_app bSuf s0.length s0 (3, 3) 0 (Nat.le_refl _)
  have hpd := lexGo_pd (d := 2) (c := false) s0.length s0 (1, 1) (3, 3) 0 (Nat.le_refl _) ⟨rfl, fun h => by cases h⟩
  cases ha : lexGo (1, 1) 0 s0 with
  | error f => rw [k1 f ha] at h; cases h
  | ok us =>
    cases hb : lexGo (3, 3) 0 s0 with
    | error g => rw [ha, hb] at hpd; exact hpd.elim
    | ok vs =>
      rw [ha, hb] at hpd
      obtain ⟨qs, e, rfl, he1, he2, hx⟩ := k2 us ha
      obtain ⟨rs, e', rfl, hf1, hf2, hy⟩ := j2 vs hb
      rw [hx, lexGo_end _ _ [] (by rw [skp_nil]; rfl)] at h
      obtain ⟨z, hz, hz1, hz2⟩ := lex_bSuf (plc (3, 3) (s0 ++ [10])) (0 + rs.length)
      rw [show [10] ++ bSuf = 10 :: bSuf from rfl, hy, hz]
      refine ⟨rs ++ [z], rfl, ?_⟩
      cases h
      have := TRs.kts hpd
      simp only [kts, List.map_append, List.map_cons, List.map_nil] at this ⊢
      obtain ⟨e3, -⟩ := List.append_inj' this rfl
      rw [e3, hz1, hz2]
theorem blanks_plain6 (s : List UInt8) (hl : s.length ≤ 8000) (h : PF s) : ∃ a b, gParse s = .ok a ∧ gParse (bPre ++ s ++ bSuf) = .ok b ∧ sameJs a b = true ∧ 0 < a.length := by
  obtain ⟨js, ⟨n1, n2⟩, h2, ⟨l', h3, hg⟩, hb, hh, s0, rfl⟩ := h
  obtain ⟨ts, hx, -⟩ := hh
  obtain ⟨us, hy, hk⟩ := blanks_kts s0 (by simp at hl; omega) ts hx
  have := parse_kts hy hx hk.symm
  rw [hg] at this
  cases hz : gParse (bPre ++ (s0 ++ [10]) ++ bSuf) with
  | error f => rw [hz] at this; exact this.elim
  | ok b => rw [hz] at this; exact ⟨l', b, hg, rfl, RL.sameJs this, by rw [h3.len]; omega⟩
theorem joins_plain6 (s t : List UInt8) (hs : s.length ≤ 1660) (hb : brc s ≤ 6) (hl : t.length ≤ 1660) (ht : PF t) :
    (∃ f g, gParse s = .error f ∧ f.code ≠ 0 ∧ gParse (s ++ [10] ++ t) = .error g ∧ g.code ≠ 0) ∨
    ∃ a b c, gParse s = .ok a ∧ gParse t = .ok b ∧ gParse (s ++ [10] ++ t) = .ok c ∧ sameJs c (a ++ b) = true := by
  have key : (∃ f g, gParse s = .error f ∧ gParse (s ++ [10] ++ t) = .error g) ∨ ∃ a b c, gParse s = .ok a ∧ gParse t = .ok b ∧ gParse (s ++ [10] ++ t) = .ok c ∧ sameJs c (a ++ b) = true := by
    obtain ⟨js, ⟨n1, n2⟩, h2, ⟨l', h3, hg⟩, -, ⟨tb, hx, hn, t1, t2, t3, t4⟩, -⟩ := ht
    have hgt := hg
    unfold gParse at hg
    rw [hx] at hg
    simp only at hg
    have hx' := hx
    unfold lex at hx'
    rw [if_neg (by omega)] at hx'
    have hlj : lex (s ++ [10] ++ t) = lexGo (1, 1) 0 (s ++ 10 :: t) := by unfold lex; rw [if_neg (by simp; omega), List.append_assoc]; rfl
    have hls : lex s = lexGo (1, 1) 0 s := by unfold lex; rw [if_neg (by omega)]
    obtain ⟨k1, k2⟩ := lexGo_app t s.length s (1, 1) 0 (Nat.le_refl _)
    cases hsx : lexGo (1, 1) 0 s with
    | error f =>
      refine .inl ⟨f, f, ?_, ?_⟩
      · unfold gParse; rw [hls, hsx]
      · unfold gParse; rw [hlj, k1 f hsx]
    | ok ts =>
      obtain ⟨qs, e, rfl, he1, he2, hj⟩ := k2 ts hsx
      obtain ⟨hsm, hbr⟩ := lexGo_small _ s _ _ (Nat.le_refl _) _ hsx
      simp only [List.length_append, List.length_cons, List.length_nil] at hsm
      have hpd := lexGo_pd (d := nls s + 1) (c := true) t.length t (1, 1) (1 + (nls s + 1), 1) 0 (Nat.le_refl _) ⟨rfl, fun _ => rfl⟩
      rw [hx'] at hpd
      cases h4 : lexGo (1 + (nls s + 1), 1) 0 t with
      | error g => rw [h4] at hpd; exact hpd.elim
      | ok us =>
        rw [h4] at hpd
        have hkt := TRs.kts hpd
        have hul := congrArg List.length hkt
        simp only [kts, List.length_map] at hul
        have h5 := lexGo_fit t.length t _ 0 (0 + qs.length) (Nat.le_refl _) us h4 (by omega)
        rw [plc_nl, h5] at hj
        have hSh : Sh tb (qs ++ us) qs.length := by
          have h0 := Sh.of_kts hkt
          have e : ∀ k, tkA (qs ++ us) (k + qs.length) = tkA us (k + 0) := fun k => by
            unfold tkA
            rw [List.getD_eq_getElem?_getD, List.getD_eq_getElem?_getD, List.getElem?_append_right (by omega)]
            simp
          refine ⟨fun k => by rw [e]; exact h0.kind k, fun k => by rw [e]; exact h0.text k, by have := h0.len; simp; omega⟩
        have htb : 2 ≤ tb.length := by
          have := tkA_lt (ts := tb) (k := 1) (by rw [t3]; decide)
          omega
        obtain ⟨qs', e', hqe, -, hne⟩ := lexGo_ok _ _ _ _ _ (Nat.le_refl _) hsx
        obtain ⟨hqq, -⟩ := List.append_inj' hqe rfl
        subst hqq
        have hAg : Ag (qs ++ [e]) (qs ++ us) qs.length := by
          refine ⟨fun k hk => ?_, fun k hk => ?_, ?_, by simp, by simp; omega, ?_, ?_, ?_, ?_⟩
          · unfold tkA
            rw [List.getD_eq_getElem?_getD, List.getD_eq_getElem?_getD, List.getElem?_append_left hk, List.getElem?_append_left hk]
          · have e2 : tkA (qs ++ [e]) k = qs[k] := by
              unfold tkA
              rw [List.getD_eq_getElem?_getD, List.getElem?_append_left hk, List.getElem?_eq_getElem hk]; rfl
            rw [e2]
            exact hne.1 qs[k] (List.getElem_mem hk)
          · unfold tkA
            rw [List.getD_eq_getElem?_getD, List.getElem?_append_right (Nat.le_refl _)]
            simpa using he1
          · have := hSh.kind 0; rw [Nat.zero_add] at this; rw [this, t1]
          · have := hSh.text 0; rw [Nat.zero_add] at this; rw [this, t2]
          · have := hSh.kind 1; rw [Nat.add_comm] at this; rw [this, t3]
          · have := hSh.text 1; rw [Nat.add_comm] at this; rw [this]; exact t4
        have hlj2 : lex (s ++ [10] ++ t) = .ok (qs ++ us) := by rw [hlj, hj]; rfl
        have g1 : gParse s = gJobs (qs ++ [e]) 0 [] := by unfold gParse; rw [hls, hsx]
        have g2 : gParse (s ++ [10] ++ t) = gJobs (qs ++ us) 0 [] := by unfold gParse; rw [hlj2]
        rcases hAg.jobs _ 0 [] (Nat.le_refl _) (Nat.zero_le _) with ⟨r, r1, r2⟩ | ⟨⟨f, r1⟩, g, r2⟩
        · right
          have hrl := jobs_brace _ 0 [] r (Nat.le_refl _) r1
          simp only [List.length_nil, Nat.zero_add] at hrl
          obtain ⟨-, p2⟩ := gJobs_pre r _ 0 [] l' (Nat.le_refl _) hg
          have hll := h3.len
          have p3 := p2 (by omega)
          have p4 := hSh.jobs _ 0 (r ++ []) r (Nat.le_refl _) (by rw [List.append_nil]; exact RL.refl r)
          rw [p3, Nat.zero_add] at p4
          cases hc : gJobs (qs ++ us) qs.length r with
          | error f => rw [hc] at p4; exact p4.elim
          | ok c =>
            rw [hc] at p4
            exact ⟨r, l', c, g1.trans r1, hgt, g2.trans (r2.trans hc), RL.sameJs p4⟩
        · exact .inl ⟨f, g, g1.trans r1, g2.trans r2⟩
  rcases key with ⟨f, g, h1, h2⟩ | h
  · exact .inl ⟨f, g, h1, ec_parse s f h1, h2, ec_parse _ g h2⟩
  · exact .inr h
end Go.Proofs.YtkhhlmonhapmaaaGreatDoor
