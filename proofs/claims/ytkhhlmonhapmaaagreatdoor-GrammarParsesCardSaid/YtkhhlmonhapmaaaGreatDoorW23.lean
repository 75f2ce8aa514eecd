import Derived.Test.YtkhhlmonhapmaaaGreatDoorW12
import Derived.Test.YtkhhlmonhapmaaaGreatDoorW19
import Derived.Test.YtkhhlmonhapmaaaGreatDoorW11
/- The tokens of two texts, one on the lines after the other; what a shift of places does; that places ascend. No program in sight. -/
set_option linter.unusedSimpArgs false
set_option linter.unusedVariables false
namespace Go.Proofs.YtkhhlmonhapmaaaGreatDoor
open Go.RowKit
section
variable (t : List UInt8)
theorem cmt_app : ∀ l : List UInt8, cmt (l ++ 10 :: t) = cmt l
  | [] => by rw [List.nil_append, cmt_no _ _ (by decide)]; rfl
  | c :: r => by
    rw [List.cons_append]
    by_cases h : c.toNat = 10
    · rw [cmt_no _ _ h, cmt_no _ _ h]
    · rw [cmt_yes _ _ h, cmt_yes _ _ h, cmt_app r]
theorem skp_app (l : List UInt8) : skp (l ++ 10 :: t) = if skp l = l.length then l.length + 1 + skp t else skp l := by
  induction h : l.length using Nat.strongRecOn generalizing l with
  | _ n ih =>
    cases l with
    | nil =>
      simp only [List.length_nil] at h
      subst h
      rw [List.nil_append, skp_blank 10 t (by decide), skp_nil, if_pos rfl]; omega
    | cons c r =>
      simp only [List.length_cons] at h
      rw [List.cons_append]
      by_cases h1 : c.toNat = 32 ∨ c.toNat = 9 ∨ c.toNat = 10 ∨ c.toNat = 13
      · rw [skp_blank _ _ h1, skp_blank _ _ h1, ih r.length (by omega) r rfl]
        by_cases h2 : skp r = r.length
        · rw [if_pos h2, if_pos (by omega)]; omega
        · rw [if_neg h2, if_neg (by omega)]
      · by_cases h2 : c.toNat = 35
        · have hc := cmt_app t (c :: r)
          rw [List.cons_append] at hc
          have hle := cmt_le (c :: r)
          have hyes := cmt_yes c r (by omega)
          simp only [List.length_cons] at hle
          rw [skp_cmt _ _ h2, skp_cmt _ _ h2, hc, ← List.cons_append, List.drop_append_of_le_length (by simpa using hle), ih ((c :: r).drop (cmt (c :: r))).length (by simp; omega) _ rfl]
          have hl : ((c :: r).drop (cmt (c :: r))).length = r.length + 1 - cmt (c :: r) := by simp
          by_cases h3 : skp ((c :: r).drop (cmt (c :: r))) = ((c :: r).drop (cmt (c :: r))).length
          · rw [if_pos h3, if_pos (by omega)]; omega
          · rw [if_neg h3, if_neg (by omega)]
        · rw [skp_no _ _ h1 h2, skp_no _ _ h1 h2, if_neg (by omega)]
theorem spn_app (p : UInt8 → Bool) (hp : p 10 = false) : ∀ l : List UInt8, spn p (l ++ 10 :: t) = spn p l
  | [] => by rw [List.nil_append, spn_no _ _ _ hp]; rfl
  | c :: r => by
    rw [List.cons_append]
    cases h : p c with
    | false => rw [spn_no _ _ _ h, spn_no _ _ _ h]
    | true => rw [spn_yes _ _ _ h, spn_yes _ _ _ h, spn_app p hp r]
theorem hexv_ten : hexv 10 = none := by decide
theorem escd_app (l : List UInt8) : escd (l ++ 10 :: t) = escd l := by
  cases l with
  | nil => rw [List.nil_append, escd_no _ _ (by decide)]; rfl
  | cons d r =>
    rw [List.cons_append]
    by_cases h1 : d.toNat = 34 ∨ d.toNat = 92
    · rw [escd_mark _ _ h1, escd_mark _ _ h1]
    by_cases h2 : d.toNat = 110
    · rw [escd_n _ _ h2, escd_n _ _ h2]
    by_cases h3 : d.toNat = 116
    · rw [escd_t _ _ h3, escd_t _ _ h3]
    by_cases h4 : d.toNat = 120
    · match r with
      | [] =>
        rw [List.nil_append, escd_x0 _ h4]
        cases t with
        | nil => rw [escd_x1 _ _ h4]
        | cons x y => rw [escd_x _ _ _ _ h4, hexv_ten]; rfl
      | [h] =>
        rw [List.cons_append, List.nil_append, escd_x1 _ _ h4, escd_x _ _ _ _ h4, hexv_ten]
        cases hexv h <;> rfl
      | h :: g :: y => rw [List.cons_append, List.cons_append, escd_x _ _ _ _ h4, escd_x _ _ _ _ h4]
    · rw [escd_no _ _ (by omega), escd_no _ _ (by omega)]
theorem part_app (c : UInt8) (r : List UInt8) : part (c :: (r ++ 10 :: t)) = part (c :: r) := by
  rw [part_cons, part_cons, escd_app]
theorem quo_app (l : List UInt8) : quo (l ++ 10 :: t) = quo l := by
  induction h : l.length using Nat.strongRecOn generalizing l with
  | _ n ih =>
    cases l with
    | nil => rw [List.nil_append, quo_no _ _ (by decide) (by rw [part_cons, if_pos (.inl (by decide))]), quo_nil]
    | cons c r =>
      simp only [List.length_cons] at h
      rw [List.cons_append]
      by_cases h1 : c.toNat = 34
      · rw [quo_end _ _ h1, quo_end _ _ h1]
      · have hp := part_app t c r
        cases hq : part (c :: r) with
        | none => rw [quo_no _ _ h1 (hp.trans hq), quo_no _ _ h1 hq]
        | some x =>
          obtain ⟨b, m⟩ := x
          have hle := part_le hq
          rw [quo_part _ _ b m h1 (hp.trans hq), quo_part _ _ b m h1 hq, ← List.cons_append, List.drop_append_of_le_length hle.2.2, ih _ (by simp; omega) _ rfl]
theorem sla_app (l : List UInt8) : sla (l ++ 10 :: t) = sla l := by
  induction h : l.length using Nat.strongRecOn generalizing l with
  | _ n ih =>
    cases l with
    | nil => rw [List.nil_append, sla_bad _ _ (by decide), sla_nil]
    | cons c r =>
      simp only [List.length_cons] at h
      rw [List.cons_append]
      by_cases h1 : c.toNat = 47
      · rw [sla_end _ _ h1, sla_end _ _ h1]
      by_cases h2 : c.toNat < 32
      · rw [sla_bad _ _ h2, sla_bad _ _ h2]
      by_cases h3 : c.toNat = 92
      · cases r with
        | nil => rw [List.nil_append, sla_bad2 _ _ _ h3 (by decide), sla_last _ h3]
        | cons d y =>
          simp only [List.length_cons] at h
          rw [List.cons_append]
          by_cases h4 : d.toNat < 32
          · rw [sla_bad2 _ _ _ h3 h4, sla_bad2 _ _ _ h3 h4]
          by_cases h5 : d.toNat = 47
          · rw [sla_esc _ _ _ h3 h5, sla_esc _ _ _ h3 h5, ih _ (by omega) y rfl]
          · rw [sla_two _ _ _ h3 (by omega) h5, sla_two _ _ _ h3 (by omega) h5, ih _ (by omega) y rfl]
      · rw [sla_one _ _ h1 (by omega) h3, sla_one _ _ h1 (by omega) h3, ih _ (by omega) r rfl]
theorem one_app (c : UInt8) (r : List UInt8) : one (c :: (r ++ 10 :: t)) = one (c :: r) := by
  have hw := spn_app t isWrd (by decide) (c :: r)
  have hd := spn_app t isDig (by decide) (c :: r)
  have hwl := spn_le isWrd (c :: r)
  have hdl := spn_le isDig (c :: r)
  rw [List.cons_append] at hw hd
  have e1 : (c :: (r ++ 10 :: t)).take (spn isWrd (c :: r)) = (c :: r).take (spn isWrd (c :: r)) := by rw [← List.cons_append, List.take_append_of_le_length hwl]
  have e2 : (c :: (r ++ 10 :: t)).take (spn isDig (c :: r)) = (c :: r).take (spn isDig (c :: r)) := by rw [← List.cons_append, List.take_append_of_le_length hdl]
  simp only [one, hw, hd, e1, e2, quo_app, sla_app]
theorem lexGo_app : ∀ (m : Nat) (l : List UInt8) (p : Nat × Nat) (n : Nat), l.length ≤ m →
    (∀ f, lexGo p n l = .error f → lexGo p n (l ++ 10 :: t) = .error f) ∧
    (∀ ts, lexGo p n l = .ok ts → ∃ qs e, ts = qs ++ [e] ∧ e.kind = 6 ∧ e.text = [] ∧ lexGo p n (l ++ 10 :: t) = (lexGo (plc p (l ++ [10])) (n + qs.length) t).map (qs ++ ·))
  | m, l, p, n, hm => by
    have hsa := skp_app t l
    have hsl := skp_le' l
    cases hd : l.drop (skp l) with
    | nil =>
      have hfull : skp l = l.length := by have := congrArg List.length hd; simp at this; omega
      rw [if_pos hfull] at hsa
      rw [lexGo_end p n l hd]
      refine ⟨fun f h => (by cases h), fun ts h => ?_⟩
      cases h
      refine ⟨[], _, rfl, rfl, rfl, ?_⟩
      have hz : ∀ x : Except Flt (List Tok), x.map (([] : List Tok) ++ ·) = x := fun x => except_map_id x _ fun a => rfl
      rw [hz, List.length_nil, Nat.add_zero]
      have hdr : (l ++ 10 :: t).drop (skp (l ++ 10 :: t)) = t.drop (skp t) := by
        rw [hsa, List.drop_append, show l.drop (l.length + 1 + skp t) = [] from List.drop_eq_nil_of_le (by omega), List.nil_append, show l.length + 1 + skp t - l.length = skp t + 1 from by omega, List.drop_succ_cons]
      have hpl : ∀ k, plc p ((l ++ 10 :: t).take (skp (l ++ 10 :: t) + k)) = plc (plc p (l ++ [10])) (t.take (skp t + k)) := fun k => by
        rw [← plc_app', hsa, show l ++ 10 :: t = (l ++ [10]) ++ t by simp, List.take_append, List.take_of_length_le (by simp; omega)]
        congr 2; simp; omega
      cases ht : t.drop (skp t) with
      | nil =>
        rw [lexGo_end _ _ _ (hdr.trans ht), lexGo_end _ _ _ ht, ← plc_app']
        simp
      | cons c r =>
        have hp0 := hpl 0
        simp only [Nat.add_zero] at hp0
        cases h1 : one (c :: r) with
        | error e => rw [lexGo_bad _ _ _ c r e (hdr.trans ht) h1, lexGo_bad _ _ _ c r e ht h1, hp0]
        | ok x =>
          by_cases hn : 2000 ≤ n
          · rw [lexGo_full _ _ _ c r x (hdr.trans ht) h1 hn, lexGo_full _ _ _ c r x ht h1 hn, hp0]
          · obtain ⟨a, b, q⟩ := x
            have g := one_le h1
            rw [lexGo_one _ _ _ c r a b q (hdr.trans ht) h1 g.1 (by omega), lexGo_one _ _ _ c r a b q ht h1 g.1 (by omega), hpl, hp0]
    | cons c r =>
      have hne : ¬ skp l = l.length := fun e => by rw [e, List.drop_length] at hd; cases hd
      rw [if_neg hne] at hsa
      have hlen := congrArg List.length hd
      simp only [List.length_drop, List.length_cons] at hlen
      have hdr : (l ++ 10 :: t).drop (skp (l ++ 10 :: t)) = c :: (r ++ 10 :: t) := by
        rw [hsa, List.drop_append_of_le_length hsl, hd, List.cons_append]
      have hpl : ∀ k, skp l + k ≤ l.length → plc p ((l ++ 10 :: t).take (skp (l ++ 10 :: t) + k)) = plc p (l.take (skp l + k)) := fun k hk => by
        rw [hsa, List.take_append_of_le_length hk]
      have hp0 := hpl 0 (by omega)
      simp only [Nat.add_zero] at hp0
      have ho := one_app t c r
      cases h1 : one (c :: r) with
      | error e =>
        rw [lexGo_bad _ _ _ c r e hd h1, lexGo_bad _ _ _ c _ e hdr (ho.trans h1), hp0]
        exact ⟨fun f h => h, fun ts h => by cases h⟩
      | ok x =>
        by_cases hn : 2000 ≤ n
        · rw [lexGo_full _ _ _ c r x hd h1 hn, lexGo_full _ _ _ c _ x hdr (ho.trans h1) hn, hp0]
          exact ⟨fun f h => h, fun ts h => by cases h⟩
        · obtain ⟨a, b, q⟩ := x
          have g := one_le h1
          simp only [List.length_cons] at g
          rw [lexGo_one _ _ _ c r a b q hd h1 g.1 (by omega), lexGo_one _ _ _ c _ a b q hdr (ho.trans h1) g.1 (by omega), hp0, hpl q (by omega), ← List.cons_append, List.drop_append_of_le_length (by simpa using g.2.1)]
          cases m with
          | zero => omega
          | succ m =>
            obtain ⟨k1, k2⟩ := lexGo_app m ((c :: r).drop q) (plc p (l.take (skp l + q))) (n + 1) (by simp; omega)
            cases hr : lexGo (plc p (l.take (skp l + q))) (n + 1) ((c :: r).drop q) with
            | error f =>
              rw [k1 f hr]
              exact ⟨fun f h => h, fun ts h => by cases h⟩
            | ok ys =>
              refine ⟨fun f h => (by cases h), fun ts h => ?_⟩
              obtain ⟨qs, e, rfl, k3, k4, k5⟩ := k2 ys hr
              cases h
              refine ⟨_ :: qs, e, rfl, k3, k4, ?_⟩
              rw [k5]
              have hpp : plc (plc p (l.take (skp l + q))) ((c :: r).drop q ++ [10]) = plc p (l ++ [10]) := by
                rw [← plc_app', ← List.append_assoc]
                congr 2
                rw [← hd, List.drop_drop, List.take_append_drop]
              rw [hpp, List.length_cons, show n + 1 + qs.length = n + (qs.length + 1) from by omega]
              cases lexGo (plc p (l ++ [10])) (n + (qs.length + 1)) t <;> rfl
end
theorem lexGo_pre (y x : List UInt8) (p : Nat × Nat) (n : Nat) (h : skp (y ++ x) = y.length + skp x) : lexGo p n (y ++ x) = lexGo (plc p y) n x := by
  have hdr : (y ++ x).drop (skp (y ++ x)) = x.drop (skp x) := by
    rw [h, List.drop_append, List.drop_eq_nil_of_le (by omega), List.nil_append]; congr 1; omega
  have hpl : ∀ k, plc p ((y ++ x).take (skp (y ++ x) + k)) = plc (plc p y) (x.take (skp x + k)) := fun k => by
    rw [← plc_app', h, List.take_append, List.take_of_length_le (by omega)]; congr 2; congr 1; omega
  have hp0 := hpl 0
  simp only [Nat.add_zero] at hp0
  cases ht : x.drop (skp x) with
  | nil => rw [lexGo_end _ _ _ (hdr.trans ht), lexGo_end _ _ _ ht, ← plc_app']
  | cons c r =>
    cases h1 : one (c :: r) with
    | error e => rw [lexGo_bad _ _ _ c r e (hdr.trans ht) h1, lexGo_bad _ _ _ c r e ht h1, hp0]
    | ok z =>
      by_cases hn : 2000 ≤ n
      · rw [lexGo_full _ _ _ c r z (hdr.trans ht) h1 hn, lexGo_full _ _ _ c r z ht h1 hn, hp0]
      · obtain ⟨a, b, q⟩ := z
        have g := one_le h1
        rw [lexGo_one _ _ _ c r a b q (hdr.trans ht) h1 g.1 (by omega), lexGo_one _ _ _ c r a b q ht h1 g.1 (by omega), hpl, hp0]
def PL (a b : Nat × Nat) : Prop := a.1 < b.1 ∨ a.1 = b.1 ∧ a.2 < b.2
theorem PL.tr {a b c : Nat × Nat} (h : PL a b) (k : PL b c) : PL a c := by unfold PL at *; omega
def Asc (q : Nat × Nat) : List Tok → Prop
  | [] => True
  | t :: ts => PL q (t.line, t.col) ∧ Asc (t.line, t.col) ts
theorem Asc.get : ∀ {ts : List Tok} {q : Nat × Nat}, Asc q ts → ∀ (k : Nat) (h : k + 1 < ts.length), PL (ts[k].line, ts[k].col) (ts[k + 1].line, ts[k + 1].col)
  | [], _, _, k, h => by simp at h
  | [t], _, _, k, h => by simp at h
  | t :: u :: ts, q, hA, 0, h => hA.2.1
  | t :: u :: ts, q, hA, k + 1, h => Asc.get hA.2 k (by simpa using h)
def TR (d : Nat) (c : Bool) (x y : Tok) : Prop := y.kind = x.kind ∧ y.text = x.text ∧ y.line = x.line + d ∧ (c = true → y.col = x.col)
def TRs (d : Nat) (c : Bool) : List Tok → List Tok → Prop
  | [], [] => True
  | x :: xs, y :: ys => TR d c x y ∧ TRs d c xs ys
  | _, _ => False
theorem TRs.len {d : Nat} {c : Bool} : ∀ {xs ys : List Tok}, TRs d c xs ys → ys.length = xs.length
  | [], [], _ => rfl
  | x :: xs, y :: ys, h => by simp [TRs.len h.2]
  | [], y :: ys, h => h.elim
  | x :: xs, [], h => h.elim
theorem TRs.get {d : Nat} {c : Bool} : ∀ {xs ys : List Tok}, TRs d c xs ys → ∀ (k : Nat) (h1 : k < xs.length) (h2 : k < ys.length), TR d c xs[k] ys[k]
  | [], [], _, k, h1, _ => by simp at h1
  | x :: xs, y :: ys, h, 0, _, _ => h.1
  | x :: xs, y :: ys, h, k + 1, h1, h2 => TRs.get h.2 k (by simpa using h1) (by simpa using h2)
  | [], y :: ys, h, _, _, _ => h.elim
  | x :: xs, [], h, _, _, _ => h.elim
def TRe (d : Nat) (c : Bool) : Except Flt (List Tok) → Except Flt (List Tok) → Prop
  | .error f, .error g => g.code = f.code ∧ g.line = f.line + d ∧ (c = true → g.col = f.col)
  | .ok ts, .ok us => TRs d c ts us
  | _, _ => False
def PD (d : Nat) (c : Bool) (p q : Nat × Nat) : Prop := q.1 = p.1 + d ∧ (c = true → q.2 = p.2)
theorem plc_pd {d : Nat} {c : Bool} : ∀ (l : List UInt8) {p q : Nat × Nat}, PD d c p q → PD d c (plc p l) (plc q l)
  | [], _, _, h => h
  | x :: r, p, q, h => by
    simp only [plc]
    refine plc_pd r ?_
    obtain ⟨h1, h2⟩ := h
    split
    · exact ⟨by simp only; omega, fun _ => rfl⟩
    · exact ⟨h1, fun hc => by simp only; rw [h2 hc]⟩
theorem lexGo_pd {d : Nat} {c : Bool} : ∀ (m : Nat) (l : List UInt8) (p q : Nat × Nat) (n : Nat), l.length ≤ m → PD d c p q → TRe d c (lexGo p n l) (lexGo q n l)
  | m, l, p, q, n, hm, h => by
    cases hd : l.drop (skp l) with
    | nil =>
      rw [lexGo_end p n l hd, lexGo_end q n l hd]
      have := plc_pd l h
      exact ⟨⟨rfl, rfl, this.1, this.2⟩, trivial⟩
    | cons x r =>
      have hlen := congrArg List.length hd
      simp only [List.length_drop, List.length_cons] at hlen
      have hp := plc_pd (l.take (skp l)) h
      cases h1 : one (x :: r) with
      | error e => rw [lexGo_bad _ _ _ x r e hd h1, lexGo_bad _ _ _ x r e hd h1]; exact ⟨rfl, hp.1, hp.2⟩
      | ok z =>
        by_cases hn : 2000 ≤ n
        · rw [lexGo_full _ _ _ x r z hd h1 hn, lexGo_full _ _ _ x r z hd h1 hn]; exact ⟨rfl, hp.1, hp.2⟩
        · obtain ⟨a, b, k⟩ := z
          have g := one_le h1
          simp only [List.length_cons] at g
          rw [lexGo_one _ _ _ x r a b k hd h1 g.1 (by omega), lexGo_one _ _ _ x r a b k hd h1 g.1 (by omega)]
          cases m with
          | zero => omega
          | succ m =>
            have ih := lexGo_pd m ((x :: r).drop k) _ _ (n + 1) (by simp; omega) (plc_pd (l.take (skp l + k)) h)
            cases h3 : lexGo (plc p (l.take (skp l + k))) (n + 1) ((x :: r).drop k) with
            | error f =>
              cases h4 : lexGo (plc q (l.take (skp l + k))) (n + 1) ((x :: r).drop k) with
              | error g => rw [h3, h4] at ih; exact ih
              | ok us => rw [h3, h4] at ih; exact ih.elim
            | ok ts =>
              cases h4 : lexGo (plc q (l.take (skp l + k))) (n + 1) ((x :: r).drop k) with
              | error g => rw [h3, h4] at ih; exact ih.elim
              | ok us => rw [h3, h4] at ih; exact ⟨⟨rfl, rfl, hp.1, hp.2⟩, ih⟩
end Go.Proofs.YtkhhlmonhapmaaaGreatDoor
namespace Go.Proofs.YtkhhlmonhapmaaaGreatDoor
open Go.RowKit
theorem hexv_dig : ∀ i : Nat, i < 16 → hexv (digs.getD i 0) = some i := by decide
theorem part_esc (b : UInt8) (r : List UInt8) : ∃ c t, escL b = c :: t ∧ c.toNat ≠ 34 ∧ part (c :: (t ++ r)) = some (b, (escL b).length) := by
  have hb := UInt8.toNat_lt b
  unfold escL
  split
  · rename_i h
    refine ⟨92, [b], rfl, by decide, ?_⟩
    rw [part_cons, if_neg (by decide), if_neg (by decide)]
    show Option.map _ (escd (b :: r)) = _
    rw [escd_mark b r h]; rfl
  · split
    · rename_i h
      refine ⟨92, [110], rfl, by decide, ?_⟩
      rw [part_cons, if_neg (by decide), if_neg (by decide)]
      show Option.map _ (escd (110 :: r)) = _
      rw [escd_n 110 r (by decide), show b = 10 from UInt8.toNat_inj.1 (by rw [h]; rfl)]; rfl
    · split
      · rename_i h
        refine ⟨92, [116], rfl, by decide, ?_⟩
        rw [part_cons, if_neg (by decide), if_neg (by decide)]
        show Option.map _ (escd (116 :: r)) = _
        rw [escd_t 116 r (by decide), show b = 9 from UInt8.toNat_inj.1 (by rw [h]; rfl)]; rfl
      · split
        · refine ⟨92, [120, digs.getD (b.toNat / 16) 0, digs.getD (b.toNat % 16) 0], rfl, by decide, ?_⟩
          rw [part_cons, if_neg (by decide), if_neg (by decide)]
          show Option.map _ (escd (120 :: digs.getD (b.toNat / 16) 0 :: digs.getD (b.toNat % 16) 0 :: r)) = _
          rw [escd_x 120 _ _ r (by decide), hexv_dig _ (by omega), hexv_dig _ (by omega)]
          simp only [Option.bind_some, Option.map_some, List.length_cons, List.length_nil]
          rw [show 16 * (b.toNat / 16) + b.toNat % 16 = b.toNat from by omega, UInt8.ofNat_toNat]
        · refine ⟨b, [], rfl, by omega, ?_⟩
          rw [part_cons, if_neg (by omega), if_pos (by omega)]; rfl
theorem quo_escs (t : List UInt8) : ∀ s : List UInt8, quo (s.flatMap escL ++ 34 :: t) = some (s, (s.flatMap escL).length + 1)
  | [] => by rw [List.flatMap_nil, List.nil_append, quo_end 34 t (by decide)]; rfl
  | b :: s => by
    obtain ⟨c, u, he, h34, hp⟩ := part_esc b (s.flatMap escL ++ 34 :: t)
    have hl : (escL b).length = u.length + 1 := by rw [he]; rfl
    rw [List.flatMap_cons, List.append_assoc, he, List.cons_append, quo_part c _ b _ h34 hp, hl, List.drop_succ_cons, List.drop_left, quo_escs t s]
    simp only [Option.map_some, List.length_append, List.length_cons]
    congr 2 <;> omega
end Go.Proofs.YtkhhlmonhapmaaaGreatDoor
namespace Go.Proofs.YtkhhlmonhapmaaaGreatDoor
open Go.RowKit
def kts (ts : List Tok) : List (Int × List UInt8) := ts.map fun t => (t.kind, t.text)
def Reads (C : List UInt8 → Prop) (l : List UInt8) (ks : List (Int × List UInt8)) : Prop :=
  ∀ (p : Nat × Nat) (n : Nat) (t : List UInt8), C t → n + ks.length ≤ 2000 → ∃ ts : List Tok, kts ts = ks ∧ lexGo p n (l ++ t) = (lexGo (plc p l) (n + ks.length) t).map (ts ++ ·)
def Any (_ : List UInt8) : Prop := True
def Brk : List UInt8 → Prop
  | [] => True
  | c :: _ => isWrd c = false
theorem map_map {α β γ : Type} (x : Except Flt α) (f : α → β) (g : β → γ) : (x.map f).map g = x.map fun a => g (f a) := by cases x <;> rfl
theorem Reads.app {C D : List UInt8 → Prop} {a b : List UInt8} {ks ms : List (Int × List UInt8)} (ha : Reads C a ks) (hb : Reads D b ms) (h : ∀ t, D t → C (b ++ t)) : Reads D (a ++ b) (ks ++ ms) := by
  intro p n t ht hn
  rw [List.length_append] at hn
  obtain ⟨ts, h1, h2⟩ := ha p n (b ++ t) (h t ht) (by omega)
  obtain ⟨us, h3, h4⟩ := hb (plc p a) (n + ks.length) t ht (by omega)
  refine ⟨ts ++ us, by simp [kts] at *; rw [h1, h3], ?_⟩
  rw [List.append_assoc, h2, h4, map_map, plc_app', List.length_append, Nat.add_assoc]
  simp only [List.append_assoc]
theorem Reads.then {D : List UInt8 → Prop} {a b : List UInt8} {ks ms : List (Int × List UInt8)} (ha : Reads Any a ks) (hb : Reads D b ms) : Reads D (a ++ b) (ks ++ ms) := ha.app hb fun _ _ => trivial
theorem Reads.brk {D : List UInt8 → Prop} {a r : List UInt8} {c : UInt8} {ks ms : List (Int × List UInt8)} (ha : Reads Brk a ks) (hc : isWrd c = false) (hb : Reads D (c :: r) ms) : Reads D (a ++ c :: r) (ks ++ ms) := ha.app hb fun _ _ => hc
theorem Reads.nil : Reads Any [] [] := fun p n t _ _ => ⟨[], rfl, by simp only [List.nil_append, List.length_nil, Nat.add_zero, plc]; exact (except_map_id _ _ fun a => rfl).symm⟩
theorem Reads.blank {c : UInt8} (h : c.toNat = 32 ∨ c.toNat = 9 ∨ c.toNat = 10 ∨ c.toNat = 13) : Reads Any [c] [] := fun p n t _ _ => ⟨[], rfl, by
  rw [lexGo_pre [c] t p n (by show skp (c :: t) = _; rw [skp_blank c t h]; simp; omega)]
  simp only [List.length_nil, Nat.add_zero, List.nil_append]
  exact (except_map_id _ _ fun a => rfl).symm⟩
theorem Reads.tok {C : List UInt8 → Prop} {c : UInt8} {r s : List UInt8} {k : Int} (hb : ¬(c.toNat = 32 ∨ c.toNat = 9 ∨ c.toNat = 10 ∨ c.toNat = 13)) (h35 : c.toNat ≠ 35) (h : ∀ t, C t → one (c :: r ++ t) = .ok (k, s, r.length + 1)) : Reads C (c :: r) [(k, s)] := fun p n t ht hn => by
  simp only [List.length_cons, List.length_nil] at hn
  have h0 : skp (c :: r ++ t) = 0 := skp_no _ _ hb h35
  refine ⟨[⟨k, s, (plc p []).1, (plc p []).2⟩], rfl, ?_⟩
  rw [lexGo_one p n (c :: r ++ t) c (r ++ t) k s (r.length + 1) (by rw [h0]; rfl) (h t ht) (by omega) (by omega), h0]
  have e1 : (c :: (r ++ t)).drop (r.length + 1) = t := by rw [List.drop_succ_cons, List.drop_left]
  have e2 : (c :: r ++ t).take (0 + (r.length + 1)) = c :: r := by rw [Nat.zero_add]; exact List.take_left' rfl
  rw [e1, e2]
  rfl
theorem Reads.sign {c : UInt8} (h : c.toNat = 123 ∨ c.toNat = 125 ∨ c.toNat = 44 ∨ c.toNat = 61) : Reads Any [c] [(5, [c])] := by
  refine Reads.tok (by omega) (by omega) fun t _ => ?_
  have h1 : isLet c = false := by simp only [isLet, decide_eq_false_iff_not]; omega
  have h2 : isDig c = false := by simp only [isDig, decide_eq_false_iff_not]; omega
  simp only [List.cons_append, List.nil_append, one, h1, h2, Bool.false_eq_true, if_false]
  rw [if_neg (by omega), if_neg (by omega), if_pos h]; rfl
theorem spn_all {p : UInt8 → Bool} {t : List UInt8} (ht : ∀ c r, t = c :: r → p c = false) : ∀ l : List UInt8, (∀ b ∈ l, p b = true) → spn p (l ++ t) = l.length
  | [], _ => by
    cases t with
    | nil => rfl
    | cons c r => rw [List.nil_append, spn_no p c r (ht c r rfl)]; rfl
  | c :: l, h => by rw [List.cons_append, spn_yes p c _ (h c (by simp)), spn_all ht l fun b hb => h b (by simp [hb])]; rfl
def IsWord : List UInt8 → Prop
  | [] => False
  | c :: r => isLet c = true ∧ ∀ b ∈ r, isWrd b = true
def IsNum : List UInt8 → Prop
  | [] => False
  | c :: r => isDig c = true ∧ (∀ b ∈ r, isDig b = true) ∧ r.length < 18 ∧ (r ≠ [] → c.toNat ≠ 48)
theorem isDig_wrd {b : UInt8} (h : isDig b = true) : isWrd b = true := by simp [isWrd, h]
theorem Reads.word {w : List UInt8} (h : IsWord w) : Reads Brk w [(1, w)] := by
  cases w with
  | nil => exact h.elim
  | cons c r =>
    obtain ⟨h1, h2⟩ := h
    have hl := h1
    simp only [isLet, decide_eq_true_eq] at hl
    refine Reads.tok (by omega) (by omega) fun t ht => ?_
    have hs : spn isWrd (c :: (r ++ t)) = r.length + 1 := by
      have := spn_all (p := isWrd) (t := t) (fun d u e => by subst e; exact ht) (c :: r) (fun b hb => by
        rcases List.mem_cons.1 hb with rfl | hb
        · simp [isWrd, h1]
        · exact h2 b hb)
      simpa using this
    simp only [List.cons_append, one, h1, if_true, hs]
    rw [List.take_succ_cons, List.take_left]
theorem Reads.num {d : List UInt8} (h : IsNum d) : Reads Brk d [(2, d)] := by
  cases d with
  | nil => exact h.elim
  | cons c r =>
    obtain ⟨h1, h2, h3, h4⟩ := h
    have hl := h1
    simp only [isDig, decide_eq_true_eq] at hl
    refine Reads.tok (by omega) (by omega) fun t ht => ?_
    have hs : spn isDig (c :: (r ++ t)) = r.length + 1 := by
      have := spn_all (p := isDig) (t := t) (fun d u e => by
        subst e
        cases hd : isDig d with
        | false => rfl
        | true => have := isDig_wrd hd; rw [show isWrd d = false from ht] at this; cases this) (c :: r) (fun b hb => by
        rcases List.mem_cons.1 hb with rfl | hb
        · exact h1
        · exact h2 b hb)
      simpa using this
    have hnl : isLet c = false := by simp only [isLet, decide_eq_false_iff_not]; omega
    simp only [List.cons_append, one, hnl, h1, Bool.false_eq_true, if_false, if_true, hs]
    rw [if_neg (by
      rintro (h | ⟨h, h'⟩)
      · omega
      · exact h4 (by intro e; subst e; simp at h) h'), List.take_succ_cons, List.take_left]
theorem Reads.str (s : List UInt8) : Reads Any (quoteL s) [(3, s)] := by
  show Reads Any (34 :: (s.flatMap escL ++ [34])) [(3, s)]
  refine Reads.tok (by decide) (by decide) fun t _ => ?_
  have h1 : isLet 34 = false := by decide
  have h2 : isDig 34 = false := by decide
  simp only [List.cons_append, List.append_assoc, List.nil_append, one, h1, h2, Bool.false_eq_true, if_false]
  rw [if_pos (by decide), quo_escs]
  simp
def PatOk : List UInt8 → Prop
  | [] => True
  | [c] => 32 ≤ c.toNat ∧ c.toNat ≠ 92
  | c :: d :: r => 32 ≤ c.toNat ∧ (if c.toNat = 92 then 32 ≤ d.toNat ∧ d.toNat ≠ 47 ∧ PatOk r else PatOk (d :: r))
theorem slB_one {c : UInt8} (h : c.toNat ≠ 47) : slB c = [c] := if_neg h
theorem sla_one' (t : List UInt8) {c : UInt8} (h : 32 ≤ c.toNat) (h2 : c.toNat ≠ 92) (l : List UInt8) : sla (slB c ++ l) = (sla l).map fun x => (c :: x.1, (slB c).length + x.2) := by
  by_cases h3 : c.toNat = 47
  · have e : slB c = [92, c] := if_pos h3
    rw [e]
    exact sla_esc 92 c l (by decide) h3
  · rw [slB_one h3]
    exact sla_one c l h3 h h2
theorem sla_slash (t : List UInt8) : ∀ s : List UInt8, PatOk s → sla (slashL s ++ 47 :: t) = some (s, (slashL s).length + 1)
  | [], _ => by simp only [slashL, List.flatMap_nil, List.nil_append]; rw [sla_end 47 t (by decide)]; rfl
  | [c], h => by
    simp only [slashL, List.flatMap_cons, List.flatMap_nil, List.append_assoc, List.nil_append]
    rw [sla_one' t h.1 h.2, sla_end 47 t (by decide)]
    simp
  | c :: d :: r, h => by
    obtain ⟨h1, h2⟩ := h
    by_cases h3 : c.toNat = 92
    · rw [if_pos h3] at h2
      have ih := sla_slash t r h2.2.2
      simp only [slashL, List.flatMap_cons, List.append_assoc] at ih ⊢
      rw [slB_one (show c.toNat ≠ 47 by omega), slB_one h2.2.1]
      simp only [List.cons_append, List.nil_append, List.length_cons]
      rw [sla_two c d _ h3 h2.1 h2.2.1, ih]
      simp; omega
    · rw [if_neg h3] at h2
      have ih := sla_slash t (d :: r) h2
      have e : slashL (c :: d :: r) = slB c ++ slashL (d :: r) := rfl
      rw [e, List.append_assoc, sla_one' t h1 h3, ih]
      simp; omega
theorem Reads.pat {s : List UInt8} (h : PatOk s) : Reads Any (47 :: (slashL s ++ [47])) [(4, s)] := by
  refine Reads.tok (by decide) (by decide) fun t _ => ?_
  have h1 : isLet 47 = false := by decide
  have h2 : isDig 47 = false := by decide
  simp only [List.cons_append, List.append_assoc, List.nil_append, one, h1, h2, Bool.false_eq_true, if_false]
  rw [if_neg (by decide), if_pos (by decide), sla_slash t s h]
  simp
end Go.Proofs.YtkhhlmonhapmaaaGreatDoor
