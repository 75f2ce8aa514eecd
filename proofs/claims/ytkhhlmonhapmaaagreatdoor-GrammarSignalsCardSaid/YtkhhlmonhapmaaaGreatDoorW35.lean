import Derived.Test.YtkhhlmonhapmaaaGreatDoorW15
/- What a text is read as, reckoned out: the same functions with a bound on their rounds. No program in sight. -/
namespace Go.Proofs.YtkhhlmonhapmaaaGreatDoor
open Go.RowKit
set_option linter.unusedSimpArgs false
set_option linter.unusedVariables false
def quoF : Nat → List UInt8 → Option (List UInt8 × Nat)
  | 0, _ => none
  | _ + 1, [] => none
  | q + 1, c :: r => if c.toNat = 34 then some ([], 1) else match part (c :: r) with
    | none => none
    | some x => (quoF q ((c :: r).drop (max x.2 1))).map fun y => (x.1 :: y.1, x.2 + y.2)
theorem quoF_eq : ∀ (q : Nat) (l : List UInt8), l.length < q → quoF q l = quo l
  | 0, _, h => by omega
  | q + 1, [], _ => by rw [quo]; rfl
  | q + 1, c :: r, h => by
    rw [quo, quoF]
    split
    · rfl
    · cases part (c :: r) with
      | none => rfl
      | some x =>
        simp only
        rw [quoF_eq q _ (by simp only [List.length_drop, List.length_cons] at *; omega)]
def skpF : Nat → List UInt8 → Nat
  | 0, _ => 0
  | _ + 1, [] => 0
  | q + 1, c :: r => if c.toNat = 32 ∨ c.toNat = 9 ∨ c.toNat = 10 ∨ c.toNat = 13 then skpF q r + 1 else if c.toNat = 35 then cmt (c :: r) + skpF q ((c :: r).drop (max (cmt (c :: r)) 1)) else 0
theorem skpF_eq : ∀ (q : Nat) (l : List UInt8), l.length < q → skpF q l = skp l
  | 0, _, h => by omega
  | q + 1, [], _ => by rw [skp]; rfl
  | q + 1, c :: r, h => by
    rw [skp, skpF]
    split
    · rw [skpF_eq q r (by simp only [List.length_cons] at h; omega)]
    · split
      · rw [skpF_eq q _ (by simp only [List.length_drop, List.length_cons] at *; omega)]
      · rfl
def oneF (q : Nat) : List UInt8 → Except Int (Int × List UInt8 × Nat)
  | [] => .error 50
  | c :: r =>
    if isLet c then .ok (1, (c :: r).take (spn isWrd (c :: r)), spn isWrd (c :: r))
    else if isDig c then
      if 18 < spn isDig (c :: r) ∨ 1 < spn isDig (c :: r) ∧ c.toNat = 48 then .error 53 else .ok (2, (c :: r).take (spn isDig (c :: r)), spn isDig (c :: r))
    else if c.toNat = 34 then match quoF q r with
      | none => .error 51
      | some x => .ok (3, x.1, x.2 + 1)
    else if c.toNat = 47 then match sla r with
      | none => .error 52
      | some x => .ok (4, x.1, x.2 + 1)
    else if c.toNat = 123 ∨ c.toNat = 125 ∨ c.toNat = 44 ∨ c.toNat = 61 then .ok (5, [c], 1)
    else .error 50
theorem oneF_eq (q : Nat) : ∀ l : List UInt8, l.length ≤ q → oneF q l = one l
  | [], _ => rfl
  | c :: r, h => by
    unfold oneF one
    simp only
    rw [quoF_eq q r (by simp only [List.length_cons] at h; omega)]
    rfl
def lexF : Nat → Nat × Nat → Nat → List UInt8 → Except Flt (List Tok)
  | 0, _, _, _ => .ok []
  | q + 1, p, n, l =>
    match l.drop (skpF (q + 2) l) with
    | [] => .ok [⟨6, [], (plc p l).1, (plc p l).2⟩]
    | c :: r =>
      match oneF (q + 2) (c :: r) with
      | .error e => .error ⟨e, (plc p (l.take (skpF (q + 2) l))).1, (plc p (l.take (skpF (q + 2) l))).2⟩
      | .ok x => if 2000 ≤ n then .error ⟨1, (plc p (l.take (skpF (q + 2) l))).1, (plc p (l.take (skpF (q + 2) l))).2⟩
        else (lexF q (plc p (l.take (skpF (q + 2) l + x.2.2))) (n + 1) ((c :: r).drop (max x.2.2 1))).map (⟨x.1, x.2.1, (plc p (l.take (skpF (q + 2) l))).1, (plc p (l.take (skpF (q + 2) l))).2⟩ :: ·)
theorem lexF_eq : ∀ (q : Nat) (p : Nat × Nat) (n : Nat) (l : List UInt8), l.length < q → lexF q p n l = lexGo p n l
  | 0, _, _, _, h => by omega
  | q + 1, p, n, l, h => by
    unfold lexF
    rw [skpF_eq (q + 2) l (by omega)]
    cases hd : l.drop (skp l) with
    | nil => rw [lexGo_end p n l hd]
    | cons c r =>
      have hlen := congrArg List.length hd
      simp only [List.length_drop, List.length_cons] at hlen
      simp only
      rw [oneF_eq (q + 2) (c :: r) (by simp only [List.length_cons]; omega)]
      cases h1 : one (c :: r) with
      | error e => rw [lexGo_bad p n l c r e hd h1]
      | ok x =>
        simp only
        by_cases hn : 2000 ≤ n
        · rw [if_pos hn, lexGo_full p n l c r x hd h1 hn]
        · obtain ⟨a, b, k⟩ := x
          have g := one_le h1
          simp only at g
          rw [if_neg hn, lexGo_one p n l c r a b k hd h1 g.1 (by omega), show max k 1 = k from by omega, lexF_eq q _ _ _ (by simp only [List.length_drop, List.length_cons]; omega)]
def lexE (l : List UInt8) : Except Flt (List Tok) := if 8192 < l.length then .error ⟨1, 0, 0⟩ else lexF (l.length + 1) (1, 1) 0 l
theorem lexE_eq (l : List UInt8) : lexE l = lex l := by
  unfold lexE lex
  rw [lexF_eq _ _ _ _ (Nat.lt_succ_self _)]
def gListF {α : Type} (el : Nat → List α → Except Flt α) (st : Nat) (ts : List Tok) : Nat → Nat → List α → Except Flt (List α × Nat)
  | 0, _, _ => .ok ([], 0)
  | q + 1, k, out => match el k out with
    | .error f => .error f
    | .ok x => if k + st < ts.length ∧ gIs ts (k + st) [44] = true then gListF el st ts q (k + st + 1) (out ++ [x]) else .ok (out ++ [x], k + st)
theorem gListF_eq {α : Type} (el : Nat → List α → Except Flt α) (st : Nat) (ts : List Tok) : ∀ (q k : Nat) (out : List α), ts.length - k < q → gListF el st ts q k out = gList el st ts k out
  | 0, _, _, h => by omega
  | q + 1, k, out, h => by
    rw [gList, gListF]
    cases el k out with
    | error f => rfl
    | ok x =>
      simp only
      by_cases hc : k + st < ts.length ∧ gIs ts (k + st) [44] = true
      · rw [if_pos hc, dif_pos hc, gListF_eq el st ts q _ _ (by omega)]
      · rw [if_neg hc, dif_neg hc]
def gItemF (ts : List Tok) (k : Nat) (w : List UInt8) (j : JF) : Except Flt (JF × Nat) :=
  if w = wRun then (gTake ts k 3 512).map fun t => ({ j with run := t.text }, k + 1)
  else if w = wEnv then (gVar ts k j.env).map fun v => ({ j with env := j.env ++ [v] }, k + 3)
  else if w = wNeeds then (gListF (gNeed ts) 1 ts (ts.length + 1) k []).map fun x => ({ j with needs := x.1 }, x.2)
  else if w = wReady then (gTake ts k 4 128).map fun t => ({ j with hasr := true, ready := t.text }, k + 1)
  else if w = wRestart then (gPol ts k).map fun n => ({ j with restart := n }, k + 1)
  else if w = wBackoff then do
    let a ← gNum ts k
    let b ← gNum ts (k + 1)
    let c ← gNum ts (k + 2)
    .ok ({ j with base := a, cap := b, stable := c }, k + 3)
  else if w = wBurst then do
    let n ← gNum ts k
    if n < 1 ∨ 16 < n then .error (flt 2 (tkA ts k)) else
    let m ← gNum ts (k + 1)
    .ok ({ j with burst := n, window := m }, k + 2)
  else (gListF (gRung ts) 2 ts (ts.length + 1) k []).map fun x => ({ j with ladder := x.1 }, x.2)
theorem gItemF_eq (ts : List Tok) (k : Nat) (w : List UInt8) (j : JF) : gItemF ts k w j = gItem ts k w j := by
  unfold gItemF gItem
  rw [gListF_eq _ _ _ _ _ _ (by omega), gListF_eq _ _ _ _ _ _ (by omega)]
def gItemsF (ts : List Tok) (name : Tok) : Nat → Nat → List (List UInt8) → JF → Except Flt (JF × Nat)
  | 0, _, _, j => .ok (j, 0)
  | q + 1, k, seen, j =>
    if gIs ts k [125] then (if seen.contains wRun then .ok (j, k + 1) else .error (flt 6 name))
    else if (tkA ts k).kind ≠ 1 ∨ ¬ items.contains (tkA ts k).text then .error (flt 60 (tkA ts k))
    else if (tkA ts k).text ≠ wEnv ∧ seen.contains (tkA ts k).text then .error (flt 5 (tkA ts k))
    else match gItemF ts (k + 1) (tkA ts k).text j with
      | .error f => .error f
      | .ok x => if k < x.2 ∧ k < ts.length then gItemsF ts name q x.2 (if (tkA ts k).text = wEnv then seen else seen ++ [(tkA ts k).text]) x.1 else .error (flt 60 (tkA ts k))
theorem gItemsF_eq (ts : List Tok) (name : Tok) : ∀ (q k : Nat) (seen : List (List UInt8)) (j : JF), ts.length - k < q → gItemsF ts name q k seen j = gItems ts name k seen j
  | 0, _, _, _, h => by omega
  | q + 1, k, seen, j, h => by
    rw [gItems, gItemsF, gItemF_eq]
    split
    · rfl
    split
    · rfl
    split
    · rfl
    cases gItem ts (k + 1) (tkA ts k).text j with
    | error f => rfl
    | ok x =>
      simp only
      by_cases hc : k < x.2 ∧ k < ts.length
      · rw [if_pos hc, dif_pos hc, gItemsF_eq ts name q _ _ _ (by omega)]
      · rw [if_neg hc, dif_neg hc]
def gJobF (ts : List Tok) (k : Nat) (full : Bool) : Except Flt (JF × Nat) := do
  let w ← gTake ts k 1 8192
  if w.text ≠ wJob then .error (flt 60 w) else
  let t ← gName ts (k + 1) full
  gSign ts (k + 2) [123]
  gItemsF ts t (ts.length + 1) (k + 3) [] (job0 t)
theorem gJobF_eq (ts : List Tok) (k : Nat) (full : Bool) : gJobF ts k full = gJob ts k full := by
  unfold gJobF gJob
  have e : ∀ t, gItemsF ts t (ts.length + 1) (k + 3) [] (job0 t) = gItems ts t (k + 3) [] (job0 t) := fun t => gItemsF_eq _ _ _ _ _ _ (by omega)
  simp only [e]
def gJobsF (ts : List Tok) : Nat → Nat → List JF → Except Flt (List JF)
  | 0, _, out => .ok out
  | q + 1, k, out => if (tkA ts k).kind = 6 then .ok out
    else match gJobF ts k (decide (32 ≤ out.length)) with
      | .error f => .error f
      | .ok x => if k < x.2 ∧ k < ts.length then gJobsF ts q x.2 (out ++ [x.1]) else .ok out
theorem gJobsF_eq (ts : List Tok) : ∀ (q k : Nat) (out : List JF), ts.length - k < q → gJobsF ts q k out = gJobs ts k out
  | 0, _, _, h => by omega
  | q + 1, k, out, h => by
    rw [gJobs, gJobsF, gJobF_eq]
    split
    · rfl
    cases gJob ts k (decide (32 ≤ out.length)) with
    | error f => rfl
    | ok x =>
      simp only
      by_cases hc : k < x.2 ∧ k < ts.length
      · rw [if_pos hc, dif_pos hc, gJobsF_eq ts q _ _ (by omega)]
      · rw [if_neg hc, dif_neg hc]
def gParseE (s : List UInt8) : Except Flt (List JF) := match lexE s with
  | .error f => .error f
  | .ok ts => gJobsF ts (ts.length + 1) 0 []
theorem gParseE_eq (s : List UInt8) : gParseE s = gParse s := by
  unfold gParseE gParse
  rw [lexE_eq]
  cases lex s with
  | error f => rfl
  | ok ts => exact gJobsF_eq ts _ _ _ (by omega)
/-- The chapter's examples. -/
def ex1 : List UInt8 := [106, 111, 98, 32, 97, 32, 123, 32, 114, 117, 110, 32, 34, 120, 34, 32, 125]
def ex2 : List UInt8 := [106, 111, 98, 32, 97, 32, 123, 32, 114, 117, 110, 32, 125]
theorem gParse_ex1 : gParse ex1 = .ok [{ job0 ⟨1, [97], 1, 5⟩ with run := [120] }] := by rw [← gParseE_eq]; rfl
theorem gParse_ex2 : gParse ex2 = .error ⟨60, 1, 13⟩ := by rw [← gParseE_eq]; rfl
end Go.Proofs.YtkhhlmonhapmaaaGreatDoor
