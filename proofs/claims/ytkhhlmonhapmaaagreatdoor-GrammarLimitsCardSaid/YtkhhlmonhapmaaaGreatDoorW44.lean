import Derived.Test.YtkhhlmonhapmaaaGreatDoorW17
import Derived.Test.YtkhhlmonhapmaaaGreatDoorW15
import Derived.Test.YtkhhlmonhapmaaaGreatDoorW12
import Derived.Test.YtkhhlmonhapmaaaGreatDoorW13
import Derived.Test.YtkhhlmonhapmaaaGreatDoorW11
import Derived.Test.YtkhhlmonhapmaaaGreatDoorW22
/- What a text is read as, reckoned out: the same functions with a bound on their rounds. No program in sight. -/
namespace Go.Proofs.YtkhhlmonhapmaaaGreatDoor
open Go.RowKit
set_option linter.unusedSimpArgs false
set_option linter.unusedVariables false
def quoF : Nat → List UInt8 → Option (List UInt8 × Nat)
  | 0, _ => none
  | _ + 1, [] => none
  | q + 1, c :: r => if c.toNat = 34 then some ([], 1) else match part (c :: r) with
    | none => none
    | some x => (quoF q ((c :: r).drop (max x.2 1))).map fun y => (x.1 :: y.1, x.2 + y.2)
theorem quoF_eq : ∀ (q : Nat) (l : List UInt8), l.length < q → quoF q l = quo l
  | 0, _, h => by omega
  | q + 1, [], _ => by rw [quo]; rfl
  | q + 1, c :: r, h => by
    rw [quo, quoF]
    split
    · rfl
    · cases part (c :: r) with
      | none => rfl
      | some x =>
        simp only
        rw [quoF_eq q _ (by simp only [List.length_drop, List.length_cons] at *; omega)]
def skpF : Nat → List UInt8 → Nat
  | 0, _ => 0
  | _ + 1, [] => 0
  | q + 1, c :: r => if c.toNat = 32 ∨ c.toNat = 9 ∨ c.toNat = 10 ∨ c.toNat = 13 then skpF q r + 1 else if c.toNat = 35 then cmt (c :: r) + skpF q ((c :: r).drop (max (cmt (c :: r)) 1)) else 0
theorem skpF_eq : ∀ (q : Nat) (l : List UInt8), l.length < q → skpF q l = skp l
  | 0, _, h => by omega
  | q + 1, [], _ => by rw [skp]; rfl
  | q + 1, c :: r, h => by
    rw [skp, skpF]
    split
    · rw [skpF_eq q r (by simp only [List.length_cons] at h; omega)]
    · split
      · rw [skpF_eq q _ (by simp only [List.length_drop, List.length_cons] at *; omega)]
      · rfl
def oneF (q : Nat) : List UInt8 → Except Int (Int × List UInt8 × Nat)
  | [] => .error 50
  | c :: r =>
    if isLet c then .ok (1, (c :: r).take (spn isWrd (c :: r)), spn isWrd (c :: r))
    else if isDig c then
      if 18 < spn isDig (c :: r) ∨ 1 < spn isDig (c :: r) ∧ c.toNat = 48 then .error 53 else .ok (2, (c :: r).take (spn isDig (c :: r)), spn isDig (c :: r))
    else if c.toNat = 34 then match quoF q r with
      | none => .error 51
      | some x => .ok (3, x.1, x.2 + 1)
    else if c.toNat = 47 then match sla r with
      | none => .error 52
      | some x => .ok (4, x.1, x.2 + 1)
    else if c.toNat = 123 ∨ c.toNat = 125 ∨ c.toNat = 44 ∨ c.toNat = 61 then .ok (5, [c], 1)
    else .error 50
theorem oneF_eq (q : Nat) : ∀ l : List UInt8, l.length ≤ q → oneF q l = one l
  | [], _ => rfl
  | c :: r, h => by
    unfold oneF one
    simp only
    rw [quoF_eq q r (by simp only [List.length_cons] at h; omega)]
    rfl
def lexF : Nat → Nat × Nat → Nat → List UInt8 → Except Flt (List Tok)
  | 0, _, _, _ => .ok []
  | q + 1, p, n, l =>
    match l.drop (skpF (q + 2) l) with
    | [] => .ok [⟨6, [], (plc p l).1, (plc p l).2⟩]
    | c :: r =>
      match oneF (q + 2) (c :: r) with
      | .error e => .error ⟨e, (plc p (l.take (skpF (q + 2) l))).1, (plc p (l.take (skpF (q + 2) l))).2⟩
      | .ok x => if 2000 ≤ n then .error ⟨1, (plc p (l.take (skpF (q + 2) l))).1, (plc p (l.take (skpF (q + 2) l))).2⟩
        else (lexF q (plc p (l.take (skpF (q + 2) l + x.2.2))) (n + 1) ((c :: r).drop (max x.2.2 1))).map (⟨x.1, x.2.1, (plc p (l.take (skpF (q + 2) l))).1, (plc p (l.take (skpF (q + 2) l))).2⟩ :: ·)
theorem lexF_eq : ∀ (q : Nat) (p : Nat × Nat) (n : Nat) (l : List UInt8), l.length < q → lexF q p n l = lexGo p n l
  | 0, _, _, _, h => by omega
  | q + 1, p, n, l, h => by
    unfold lexF
    rw [skpF_eq (q + 2) l (by omega)]
    cases hd : l.drop (skp l) with
    | nil => rw [lexGo_end p n l hd]
    | cons c r =>
      have hlen := congrArg List.length hd
      simp only [List.length_drop, List.length_cons] at hlen
      simp only
      rw [oneF_eq (q + 2) (c :: r) (by simp only [List.length_cons]; omega)]
      cases h1 : one (c :: r) with
      | error e => rw [lexGo_bad p n l c r e hd h1]
      | ok x =>
        simp only
        by_cases hn : 2000 ≤ n
        · rw [if_pos hn, lexGo_full p n l c r x hd h1 hn]
        · obtain ⟨a, b, k⟩ := x
          have g := one_le h1
          simp only at g
          rw [if_neg hn, lexGo_one p n l c r a b k hd h1 g.1 (by omega), show max k 1 = k from by omega, lexF_eq q _ _ _ (by simp only [List.length_drop, List.length_cons]; omega)]
def lexE (l : List UInt8) : Except Flt (List Tok) := if 8192 < l.length then .error ⟨1, 0, 0⟩ else lexF (l.length + 1) (1, 1) 0 l
theorem lexE_eq (l : List UInt8) : lexE l = lex l := by
  unfold lexE lex
  rw [lexF_eq _ _ _ _ (Nat.lt_succ_self _)]
def gListF {α : Type} (el : Nat → List α → Except Flt α) (st : Nat) (ts : List Tok) : Nat → Nat → List α → Except Flt (List α × Nat)
  | 0, _, _ => .ok ([], 0)
  | q + 1, k, out => match el k out with
    | .error f => .error f
    | .ok x => if k + st < ts.length ∧ gIs ts (k + st) [44] = true then gListF el st ts q (k + st + 1) (out ++ [x]) else .ok (out ++ [x], k + st)
theorem gListF_eq {α : Type} (el : Nat → List α → Except Flt α) (st : Nat) (ts : List Tok) : ∀ (q k : Nat) (out : List α), ts.length - k < q → gListF el st ts q k out = gList el st ts k out
  | 0, _, _, h => by omega
  | q + 1, k, out, h => by
    rw [gList, gListF]
    cases el k out with
    | error f => rfl
    | ok x =>
      simp only
      by_cases hc : k + st < ts.length ∧ gIs ts (k + st) [44] = true
      · rw [if_pos hc, dif_pos hc, gListF_eq el st ts q _ _ (by omega)]
      · rw [if_neg hc, dif_neg hc]
def gItemF (ts : List Tok) (k : Nat) (w : List UInt8) (j : JF) : Except Flt (JF × Nat) :=
  if w = wRun then (gTake ts k 3 512).map fun t => ({ j with run := t.text }, k + 1)
  else if w = wEnv then (gVar ts k j.env).map fun v => ({ j with env := j.env ++ [v] }, k + 3)
  else if w = wNeeds then (gListF (gNeed ts) 1 ts (ts.length + 1) k []).map fun x => ({ j with needs := x.1 }, x.2)
  else if w = wReady then (gTake ts k 4 128).map fun t => ({ j with hasr := true, ready := t.text }, k + 1)
  else if w = wRestart then (gPol ts k).map fun n => ({ j with restart := n }, k + 1)
  else if w = wBackoff then do
    let a ← gNum ts k
    let b ← gNum ts (k + 1)
    let c ← gNum ts (k + 2)
    .ok ({ j with base := a, cap := b, stable := c }, k + 3)
  else if w = wBurst then do
    let n ← gNum ts k
    if n < 1 ∨ 16 < n then .error (flt 2 (tkA ts k)) else
    let m ← gNum ts (k + 1)
    .ok ({ j with burst := n, window := m }, k + 2)
  else (gListF (gRung ts) 2 ts (ts.length + 1) k []).map fun x => ({ j with ladder := x.1 }, x.2)
theorem gItemF_eq (ts : List Tok) (k : Nat) (w : List UInt8) (j : JF) : gItemF ts k w j = gItem ts k w j := by
  unfold gItemF gItem
  rw [gListF_eq _ _ _ _ _ _ (by omega), gListF_eq _ _ _ _ _ _ (by omega)]
def gItemsF (ts : List Tok) (name : Tok) : Nat → Nat → List (List UInt8) → JF → Except Flt (JF × Nat)
  | 0, _, _, j => .ok (j, 0)
  | q + 1, k, seen, j =>
    if gIs ts k [125] then (if seen.contains wRun then .ok (j, k + 1) else .error (flt 6 name))
    else if (tkA ts k).kind ≠ 1 ∨ ¬ items.contains (tkA ts k).text then .error (flt 60 (tkA ts k))
    else if (tkA ts k).text ≠ wEnv ∧ seen.contains (tkA ts k).text then .error (flt 5 (tkA ts k))
    else match gItemF ts (k + 1) (tkA ts k).text j with
      | .error f => .error f
      | .ok x => if k < x.2 ∧ k < ts.length then gItemsF ts name q x.2 (if (tkA ts k).text = wEnv then seen else seen ++ [(tkA ts k).text]) x.1 else .error (flt 60 (tkA ts k))
theorem gItemsF_eq (ts : List Tok) (name : Tok) : ∀ (q k : Nat) (seen : List (List UInt8)) (j : JF), ts.length - k < q → gItemsF ts name q k seen j = gItems ts name k seen j
  | 0, _, _, _, h => by omega
  | q + 1, k, seen, j, h => by
    rw [gItems, gItemsF, gItemF_eq]
    split
    · rfl
    split
    · rfl
    split
    · rfl
    cases gItem ts (k + 1) (tkA ts k).text j with
    | error f => rfl
    | ok x =>
      simp only
      by_cases hc : k < x.2 ∧ k < ts.length
      · rw [if_pos hc, dif_pos hc, gItemsF_eq ts name q _ _ _ (by omega)]
      · rw [if_neg hc, dif_neg hc]
def gJobF (ts : List Tok) (k : Nat) (full : Bool) : Except Flt (JF × Nat) := do
  let w ← gTake ts k 1 8192
  if w.text ≠ wJob then .error (flt 60 w) else
  let t ← gName ts (k + 1) full
  gSign ts (k + 2) [123]
  gItemsF ts t (ts.length + 1) (k + 3) [] (job0 t)
theorem gJobF_eq (ts : List Tok) (k : Nat) (full : Bool) : gJobF ts k full = gJob ts k full := by
  unfold gJobF gJob
  have e : ∀ t, gItemsF ts t (ts.length + 1) (k + 3) [] (job0 t) = gItems ts t (k + 3) [] (job0 t) := fun t => gItemsF_eq _ _ _ _ _ _ (by omega)
  simp only [e]
def gJobsF (ts : List Tok) : Nat → Nat → List JF → Except Flt (List JF)
  | 0, _, out => .ok out
  | q + 1, k, out => if (tkA ts k).kind = 6 then .ok out
    else match gJobF ts k (decide (32 ≤ out.length)) with
      | .error f => .error f
      | .ok x => if k < x.2 ∧ k < ts.length then gJobsF ts q x.2 (out ++ [x.1]) else .ok out
theorem gJobsF_eq (ts : List Tok) : ∀ (q k : Nat) (out : List JF), ts.length - k < q → gJobsF ts q k out = gJobs ts k out
  | 0, _, _, h => by omega
  | q + 1, k, out, h => by
    rw [gJobs, gJobsF, gJobF_eq]
    split
    · rfl
    cases gJob ts k (decide (32 ≤ out.length)) with
    | error f => rfl
    | ok x =>
      simp only
      by_cases hc : k < x.2 ∧ k < ts.length
      · rw [if_pos hc, dif_pos hc, gJobsF_eq ts q _ _ (by omega)]
      · rw [if_neg hc, dif_neg hc]
def gParseE (s : List UInt8) : Except Flt (List JF) := match lexE s with
  | .error f => .error f
  | .ok ts => gJobsF ts (ts.length + 1) 0 []
theorem gParseE_eq (s : List UInt8) : gParseE s = gParse s := by
  unfold gParseE gParse
  rw [lexE_eq]
  cases lex s with
  | error f => rfl
  | ok ts => exact gJobsF_eq ts _ _ _ (by omega)
def ex1 : List UInt8 := [106, 111, 98, 32, 97, 32, 123, 32, 114, 117, 110, 32, 34, 120, 34, 32, 125]
def ex2 : List UInt8 := [106, 111, 98, 32, 97, 32, 123, 32, 114, 117, 110, 32, 125]
theorem gParse_ex1 : gParse ex1 = .ok [{ job0 ⟨1, [97], 1, 5⟩ with run := [120] }] := by rw [← gParseE_eq]; rfl
theorem gParse_ex2 : gParse ex2 = .error ⟨60, 1, 13⟩ := by rw [← gParseE_eq]; rfl
end Go.Proofs.YtkhhlmonhapmaaaGreatDoor
/- Jobs of tokens: two texts, one behind the other; tokens that are the same but for their places. No program in sight. -/
namespace Go.Proofs.YtkhhlmonhapmaaaGreatDoor
open Go.RowKit
set_option linter.unusedSimpArgs false
set_option linter.unusedVariables false
structure Ag (ts us : List Tok) (m : Nat) : Prop where
  same : ∀ k, k < m → tkA us k = tkA ts k
  ne : ∀ k, k < m → (tkA ts k).kind ≠ 6
  fin : (tkA ts m).kind = 6
  lt : ts.length = m + 1
  lu : m + 1 < us.length
  kw : (tkA us m).kind = 1
  tw : (tkA us m).text = wJob
  kn : (tkA us (m + 1)).kind = 1
  tn : (tkA us (m + 1)).text ∉ items
section
variable {α β : Type} {ts us : List Tok} {m k : Nat}
def A2 (x y : Except Flt α) (n m : Nat) : Prop := (∃ a, x = .ok a ∧ y = .ok a ∧ n ≤ m) ∨ ((∃ f, x = .error f) ∧ ∃ f, y = .error f)
theorem A2.bad {x y : Except Flt α} {n m : Nat} {f g : Flt} (hx : x = .error f) (hy : y = .error g) : A2 x y n m := .inr ⟨⟨f, hx⟩, g, hy⟩
theorem A2.of {x y : Except Flt α} {n m : Nat} (h : y = x) (hn : n ≤ m) : A2 x y n m := by
  subst h
  cases y with
  | error f => exact .bad rfl rfl
  | ok a => exact .inl ⟨a, rfl, rfl, hn⟩
theorem A2.bind {x y : Except Flt α} {f g : α → Except Flt β} {n n' m : Nat} (h : A2 x y n m) (hf : ∀ a, n ≤ m → A2 (f a) (g a) n' m) : A2 (x >>= f) (y >>= g) n' m := by
  rcases h with ⟨a, rfl, rfl, hn⟩ | ⟨⟨f1, rfl⟩, f2, rfl⟩
  · exact hf a hn
  · exact .bad rfl rfl
theorem A2.map {x y : Except Flt α} {f : α → β} {n m : Nat} (h : A2 x y n m) : A2 (x.map f) (y.map f) n m := by
  rcases h with ⟨a, rfl, rfl, hn⟩ | ⟨⟨f1, rfl⟩, f2, rfl⟩
  · exact .inl ⟨_, rfl, rfl, hn⟩
  · exact .bad rfl rfl
theorem Ag.take_m (h : Ag ts us m) {kind : Int} {most : Nat} (hk : kind ≠ 6) : ∃ f, gTake ts m kind most = .error f := ⟨_, by unfold gTake; rw [if_pos (by rw [h.fin]; exact fun e => hk e.symm)]⟩
theorem Ag.take_lt (h : Ag ts us m) {kind : Int} {most : Nat} (hk : k < m) : gTake us k kind most = gTake ts k kind most := by unfold gTake; rw [h.same k hk]
theorem Ag.take (h : Ag ts us m) {kind : Int} {most : Nat} (hk : k ≤ m) (h1 : kind ≠ 1) (h6 : kind ≠ 6) : A2 (gTake ts k kind most) (gTake us k kind most) (k + 1) m := by
  by_cases hlt : k < m
  · exact .of (h.take_lt hlt) hlt
  · obtain rfl : k = m := by omega
    obtain ⟨f, hf⟩ := h.take_m (most := most) h6
    exact .bad hf (by unfold gTake; rw [if_pos (by rw [h.kw]; exact fun e => h1 e.symm)])
theorem Ag.num (h : Ag ts us m) (hk : k ≤ m) : A2 (gNum ts k) (gNum us k) (k + 1) m := (h.take hk (by decide) (by decide)).map
def AI (x y : Except Flt (JF × Nat)) (k m : Nat) : Prop := (∃ j k', x = .ok (j, k') ∧ y = .ok (j, k') ∧ k ≤ k' ∧ k' ≤ m) ∨ ((∃ f, x = .error f) ∧ ((∃ f, y = .error f) ∨ ∃ j, y = .ok (j, m + 1)))
theorem AI.of {x y : Except Flt α} {k d m : Nat} {f : α → JF} (h : A2 x y (k + d) m) : AI (x.map fun t => (f t, k + d)) (y.map fun t => (f t, k + d)) k m := by
  rcases h with ⟨a, rfl, rfl, hn⟩ | ⟨⟨f1, rfl⟩, f2, rfl⟩
  · exact .inl ⟨_, _, rfl, rfl, by omega, hn⟩
  · exact .inr ⟨⟨_, rfl⟩, .inl ⟨_, rfl⟩⟩
structure Sh (ts us : List Tok) (d : Nat) : Prop where
  kind : ∀ k, (tkA us (k + d)).kind = (tkA ts k).kind
  text : ∀ k, (tkA us (k + d)).text = (tkA ts k).text
  len : us.length = ts.length + d
def RE (R : α → β → Prop) : Except Flt α → Except Flt β → Prop
  | .error f, .error g => f.code = g.code
  | .ok a, .ok b => R a b
  | _, _ => False
theorem RE.bind {α' β' : Type} {R : α → β → Prop} {S : α' → β' → Prop} {x : Except Flt α} {y : Except Flt β} {f : α → Except Flt α'} {g : β → Except Flt β'} (h : RE R x y) (hf : ∀ a b, R a b → RE S (f a) (g b)) : RE S (x >>= f) (y >>= g) := by
  cases x with
  | error e => cases y with
    | error e' => exact h
    | ok b => exact h.elim
  | ok a => cases y with
    | error e' => exact h.elim
    | ok b => exact hf a b h
theorem RE.map {α' β' : Type} {R : α → β → Prop} {S : α' → β' → Prop} {x : Except Flt α} {y : Except Flt β} {f : α → α'} {g : β → β'} (h : RE R x y) (hf : ∀ a b, R a b → S (f a) (g b)) : RE S (x.map f) (y.map g) := by
  cases x with
  | error e => cases y with
    | error e' => exact h
    | ok b => exact h.elim
  | ok a => cases y with
    | error e' => exact h.elim
    | ok b => exact hf a b h
def RTok (t u : Tok) : Prop := u.kind = t.kind ∧ u.text = t.text
variable {d : Nat}
theorem Sh.take (h : Sh ts us d) (k : Nat) (kind : Int) (most : Nat) : RE RTok (gTake ts k kind most) (gTake us (k + d) kind most) := by
  unfold gTake
  rw [h.kind, h.text]
  split
  · rfl
  · split
    · rfl
    · exact ⟨h.kind k, h.text k⟩
theorem Sh.num (h : Sh ts us d) (k : Nat) : RE Eq (gNum ts k) (gNum us (k + d)) := (h.take k 2 8192).map fun t u e => by rw [e.2]
theorem Sh.name (h : Sh ts us d) (k : Nat) (full : Bool) : RE RTok (gName ts k full) (gName us (k + d) full) :=
  (h.take k 1 32).bind fun t u e => by
    cases full with
    | true => exact rfl
    | false => exact e
theorem Sh.at (h : Sh ts us d) (k i : Nat) : k + d + i = k + i + d := by omega
def RJ (j j' : JF) : Prop := ∃ l c, j' = { j with line := l, col := c }
theorem RJ.refl (j : JF) : RJ j j := ⟨j.line, j.col, rfl⟩
def RL : List JF → List JF → Prop
  | [], [] => True
  | a :: l, b :: m => RJ a b ∧ RL l m
  | _, _ => False
theorem RL.refl : ∀ l : List JF, RL l l
  | [] => trivial
  | a :: l => ⟨RJ.refl a, RL.refl l⟩
theorem RL.len : ∀ {l m : List JF}, RL l m → m.length = l.length
  | [], [], _ => rfl
  | a :: l, b :: m, h => by simp [RL.len h.2]
  | [], b :: m, h => h.elim
  | a :: l, [], h => h.elim
theorem RL.app : ∀ {l m l' m' : List JF}, RL l m → RL l' m' → RL (l ++ l') (m ++ m')
  | [], [], _, _, _, h => h
  | a :: l, b :: m, _, _, h, h' => ⟨h.1, RL.app h.2 h'⟩
  | [], b :: m, _, _, h, _ => h.elim
  | a :: l, [], _, _, h, _ => h.elim
theorem tkA_lt (h : (tkA ts k).kind ≠ 6) : k < ts.length := by
  rcases Nat.lt_or_ge k ts.length with h1 | h1
  · exact h1
  · exfalso
    apply h
    unfold tkA
    rw [List.getD_eq_getElem?_getD, List.getElem?_eq_none h1]
    rfl
end
end Go.Proofs.YtkhhlmonhapmaaaGreatDoor
/- The mill: a deck of numbers (XGr1's part, for seats that have XBits). -/
namespace Go.Proofs.YtkhhlmonhapmaaaGreatDoor
open Go.RowKit
set_option linter.unusedSimpArgs false
set_option linter.unusedVariables false
def ia (l : List Int) : List AV := l.map fun n => .x (.int .i64 n)
@[simp] theorem ia_len (l : List Int) : (ia l).length = l.length := by simp [ia]
theorem ia_drop (l : List Int) (k : Nat) (h : k < l.length) : (ia l).drop k = .x (.int .i64 l[k]) :: ia (l.drop (k + 1)) := by
  rw [ia, ← List.map_drop, List.drop_eq_getElem_cons h]; rfl
def deck (b : Nat) (l : List Int) (k : Nat) : Hp := .box b [.sq l.length (ia l), .x (.int .i64 k)]
set_option maxRecDepth 100000 in
set_option maxHeartbeats 8000000 in
theorem left_spec (b : Nat) (l : List Int) (k : Nat) (hl : l.length ≤ 140737488355328) : Spec Tryz.prog 18 [deck b l k] [.x (.pointer (some ⟨b, 0, none⟩))] (fun r H' => r = .x (.bool (decide (k < l.length))) ∧ H' = [deck b l k]) := by
  unfold deck
  refine Spec_of Tryz.func18 rfl ?_
  simp only [Tryz.ntmps18, List.length_cons, List.length_nil, List.replicate_succ, List.replicate_zero, List.cons_append, List.nil_append, Nat.reduceAdd, Nat.reduceSub]
  (repeat' (first | with_reducible (first | refine awp_seq ?_ | refine awp_region ?_ | refine awp_ret ?_ | refine awpL_nil ?_ | refine dr_nil ?_ | refine thenA_normal ?_) | (with_reducible refine awp_drawnQ mixed ?_ ?_; (decide +kernel)) | ((first | apply awpL_evl2 rfl | apply dr_evl2 rfl); (case h => ((first | (apply Evl_k 0 rfl; (first | exact Evl_mv _ rfl | exact Evl_as _ rfl)) | (apply Evl_k 3 rfl; (exact Evl_len _ _ _ _ _ _ HEl.out rfl rfl)) | (apply Evl_k 4 rfl; (exact Evl_nil _ rfl (by first | exact .inl ⟨_, rfl⟩ | fail))) | (apply Evl_k 5 rfl; (exact Evl_field_x _ _ _ _ _ _ rfl rfl HFld.out)) | (apply Evl_k 6 rfl; (exact Evl_load _ _ _ _ _ _ _ _ rfl rfl FBox.out HAgg.out (by first | exact Nat.le_of_ble_eq_true rfl | fail) (by first | exact Nat.le_of_ble_eq_true rfl | fail))) | (apply Evl_x; (case hs => (intro _ _ h; cases h)); (case hx => rfl); (case hrun => (intro w; simp [wtb, AV.val, go_sem]; skip; rfl)))))); (case hT => ((try simp only [wtn]); rfl))) | fail))
  refine endA_ret _ _ (Res1 rfl (RV.tmp _) (Weak.mk' [] _ (List.Perm.refl _) (VwHs.refl _ _) (VwL.refl _ _))) ?_
  exact ⟨rfl, rfl⟩
theorem mod_spec (v n : Int) (hn : 1 ≤ n) (hn2 : n ≤ 9223372036854775807) (hv : -9223372036854775808 ≤ v ∧ v ≤ 9223372036854775807) (H : List Hp) : Spec Tryz.prog 20 H [.x (.int .i64 v), .x (.int .i64 n)] (fun r H' => r = .x (.int .i64 (v % n)) ∧ H' = H) :=
  Spec_calls (args := [.int .i64 v, .int .i64 n]) (fun w => (mod_any v n w hn hn2 hv.1 hv.2).mono fun e w' ⟨h1, h2⟩ => ⟨h1, h2 ▸ Below.refl _ _⟩) H
def nextv (l : List Int) (k : Nat) (n : Nat) : Int := if h : k < l.length then l[k] % n else 0
def I64 (l : List Int) : Prop := ∀ x ∈ l, -9223372036854775808 ≤ x ∧ x ≤ 9223372036854775807
set_option maxRecDepth 100000 in
set_option maxHeartbeats 8000000 in
theorem next_spec (b : Nat) (l : List Int) (k n : Nat) (hl : l.length ≤ 140737488355328) (hk : k ≤ l.length) (hn : 1 ≤ n) (hn2 : n ≤ 1000000) (hI : I64 l) : Spec Tryz.prog 19 [deck b l k] [.x (.pointer (some ⟨b, 0, none⟩)), .x (.int .i64 n)] (fun r H' => r = .x (.int .i64 (nextv l k n)) ∧ H' = [deck b l (min (k + 1) l.length)]) := by
  have hI := Lib.hid hI
  have hd : deck b l k = .box b [.sq l.length (ia l), .x (.int .i64 k)] := rfl
  rw [hd]
  refine Spec_of Tryz.func19 rfl ?_
  simp only [Tryz.ntmps19, List.length_cons, List.length_nil, List.replicate_succ, List.replicate_zero, List.cons_append, List.nil_append, Nat.reduceAdd, Nat.reduceSub]
  (repeat' (first | with_reducible (first | refine awp_seq ?_ | refine awp_region ?_ | refine awp_ret ?_ | refine awp_skip ?_ | refine awpL_nil ?_ | refine dr_nil ?_ | refine thenA_normal ?_ | refine thenA_ret ?_) | (with_reducible refine awp_drawnQ mixed ?_ ?_; (decide +kernel)) | (refine awp_cond _ rfl (fun h => ?_) (fun h => ?_) <;> ((try (simp only [whn] at h)); skip)) | ((first | apply awpL_evl2 rfl | apply dr_evl2 rfl); (case h => ((first | (apply Evl_k 0 rfl; (first | exact Evl_mv _ rfl | exact Evl_as _ rfl)) | (apply Evl_k 4 rfl; (exact Evl_nil _ rfl (by first | exact .inl ⟨_, rfl⟩ | fail))) | (apply Evl_k 5 rfl; (exact Evl_field_x _ _ _ _ _ _ rfl rfl HFld.out)) | (apply Evl_k 6 rfl; (first | exact Evl_load_at _ _ _ _ _ rfl rfl HAgg.out (by first | exact Nat.le_of_ble_eq_true rfl | fail) (by first | exact Nat.le_of_ble_eq_true rfl | fail) | exact Evl_load _ _ _ _ _ _ _ _ rfl rfl FBox.out HAgg.out (by first | exact Nat.le_of_ble_eq_true rfl | fail) (by first | exact Nat.le_of_ble_eq_true rfl | fail))) | (apply Evl_k 7 rfl; (exact Evl_index_sq _ _ _ _ _ _ _ _ _ _ rfl rfl rfl HEl.out rfl (by first | omega | fail) (by simp; first | omega | fail))) | (apply Evl_k 11 rfl; (exact Evl_call 20 Tryz.f20 _ _ rfl rfl Tryz.func20 (by decide) rfl (VwL.refl _ _) (mod_spec _ _ (by omega) (by omega) (hI.out _ (List.getElem_mem _)) []))) | (apply Evl_x; (case hs => (intro _ _ h; cases h)); (case hx => rfl); (case hrun => (intro w; simp [wtb, AV.val, go_sem]; (try go_bits); rfl)))))); (case hT => ((try simp (disch := assumption) only [wtn, deck, ia_drop, List.append_eq, List.foldl_cons, List.foldl_nil, List.map_cons, List.map_nil, Nat.reduceAdd, Nat.reduceMul, Nat.reduceSub, ↓reduceIte, Nat.reduceEqDiff]); rfl))) | (refine awpL_cons rfl ?_; ((first | (refine Stp_k 11 rfl ?_; ((refine Stp_call 18 Tryz.f18 ([deck b l k]) _ _ _ rfl rfl Tryz.func18 (by decide) rfl (List.Perm.refl _) (VwL.refl _ _) (left_spec b l k hl) ?_; rintro _ _ ⟨rfl, rfl⟩))) | (refine Stp_k 16 rfl ?_; ((refine Stp_store _ _ _ _ _ _ _ rfl rfl FBox.out HSize.out (by first | rfl | fail) (by first | exact Nat.le_of_ble_eq_true rfl | fail) ?_)))); apply awpL_cong; (case hT => ((try simp (disch := omega) only [wtn, deck, ia_drop, List.append_eq, List.foldl_cons, List.foldl_nil, List.map_cons, List.map_nil, Nat.reduceAdd, Nat.reduceMul, Nat.reduceSub, ↓reduceIte, Nat.reduceEqDiff]); rfl)); (case hH => ((try simp (disch := omega) only [wtn, deck, ia_drop, List.append_eq, List.foldl_cons, List.foldl_nil, List.map_cons, List.map_nil, Nat.reduceAdd, Nat.reduceMul, Nat.reduceSub, ↓reduceIte, Nat.reduceEqDiff]); rfl)))) | fail))
  · refine endA_ret _ _ (Res1 rfl (RV.tmp _) (Weak.mk' [] _ (List.Perm.refl _) (VwHs.refl _ _) (VwL.refl _ _))) ?_
    exact ⟨by rw [nextv, dif_neg h]; rfl, by rw [show min (k + 1) l.length = k from by omega]; rfl⟩
  · refine endA_ret _ _ (Res1 rfl (RV.tmp _) (Weak.mk' [] _ (List.Perm.refl _) (VwHs.refl _ _) (VwL.refl _ _))) ?_
    exact ⟨by rw [nextv, dif_pos h]; rfl, by rw [show min (k + 1) l.length = k + 1 from by omega]; rfl⟩
end Go.Proofs.YtkhhlmonhapmaaaGreatDoor
/- The mill: numbers of a deck, names, patterns, output; what they are is bounded, no more is said. -/
namespace Go.Proofs.YtkhhlmonhapmaaaGreatDoor
open Go.RowKit
set_option linter.unusedSimpArgs false
set_option linter.unusedVariables false
structure DK (l : List Int) : Prop where
  len : l.length ≤ 140737488355328
  vals : I64 l
theorem nextv_lt (l : List Int) (k n : Nat) (hn : 1 ≤ n) : ∃ v : Nat, nextv l k n = v ∧ v < n := by
  unfold nextv
  split
  · refine ⟨(l[k] % n).toNat, ?_, ?_⟩
    · have := Int.emod_nonneg l[k] (show (n : Int) ≠ 0 by omega); omega
    · have h1 := Int.emod_nonneg l[k] (show (n : Int) ≠ 0 by omega)
      have h2 := Int.emod_lt_of_pos l[k] (show (0 : Int) < n by omega); omega
  · exact ⟨0, rfl, by omega⟩
theorem next_w (b : Nat) (l : List Int) (k n : Nat) (hd : DK l) (hk : k ≤ l.length) (hn : 1 ≤ n) (hn2 : n ≤ 1000000) : Spec Tryz.prog 19 [.box b [.sq l.length (ia l), .x (.int .i64 k)]] [.x (.pointer (some ⟨b, 0, none⟩)), .x (.int .i64 n)] (fun r H' => ∃ v k' : Nat, r = .x (.int .i64 v) ∧ H' = [.box b [.sq l.length (ia l), .x (.int .i64 k')]] ∧ v < n ∧ k' ≤ l.length) := by
  refine (next_spec b l k n hd.len hk hn hn2 hd.vals).mono ?_
  rintro r H' ⟨rfl, rfl⟩
  obtain ⟨v, e, hv⟩ := nextv_lt l k n hn
  exact ⟨v, min (k + 1) l.length, by rw [e], rfl, hv, by omega⟩
theorem getq (l : List (List UInt8)) (k : Nat) (h : k < l.length) : (sa l).drop k = .x (.string (bs (l.getD k []))) :: sa (l.drop (k + 1)) := by
  rw [sa_drop l k h, List.getD_eq_getElem?_getD, List.getElem?_eq_getElem h]; rfl
theorem pick_sa (l : List (List UInt8)) (v : Nat) (h : v < l.length) : ((sa l).drop v).getD 0 .top = .x (.string (bs (l.getD v []))) := by
  rw [getq l v h]; rfl
theorem allD (l : List (List UInt8)) (p : List UInt8 → Prop) (h : ∀ s ∈ l, p s) (v : Nat) (hv : v < l.length) : p (l.getD v []) := by
  rw [List.getD_eq_getElem?_getD, List.getElem?_eq_getElem hv]; exact h _ (List.getElem_mem hv)
def names : List (List UInt8) := [[97], [98], [99], [100], [120]]
end Go.Proofs.YtkhhlmonhapmaaaGreatDoor
