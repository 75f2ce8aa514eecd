import Derived.Test.YtkhhlmonhapmaaaGreatDoorW14
import Derived.Test.YtkhhlmonhapmaaaGreatDoorW13
import Derived.Test.YtkhhlmonhapmaaaGreatDoorW9
import Derived.Test.YtkhhlmonhapmaaaGreatDoorW11
/- The tokens of a text, one after the other: what lies read. No program in sight. -/
namespace Go.Proofs.YtkhhlmonhapmaaaGreatDoor
open Go.RowKit
set_option linter.unusedSimpArgs false
set_option linter.unusedVariables false
theorem plc_app' (p : Nat × Nat) (a b : List UInt8) : plc p (a ++ b) = plc (plc p a) b := by
  induction a generalizing p with
  | nil => rfl
  | cons c a ih => simp only [List.cons_append, plc]; exact ih _
theorem plc_at (l : List UInt8) (k s : Nat) : plc (plc (1, 1) (l.take k)) ((l.drop k).take s) = plc (1, 1) (l.take (k + s)) := by
  rw [← plc_app', ← List.take_add]
theorem skp_le' (l : List UInt8) : skp l ≤ l.length := by
  induction h : l.length using Nat.strongRecOn generalizing l with
  | _ n ih =>
    cases l with
    | nil => simp [skp_nil]
    | cons c r =>
      by_cases h1 : c.toNat = 32 ∨ c.toNat = 9 ∨ c.toNat = 10 ∨ c.toNat = 13
      · rw [skp_blank c r h1]
        have := ih r.length (by simp at h; omega) r rfl
        simp at h; omega
      · by_cases h2 : c.toNat = 35
        · rw [skp_cmt c r h2]
          have h3 := cmt_yes c r (by omega)
          have := ih ((c :: r).drop (cmt (c :: r))).length (by simp at h ⊢; omega) _ rfl
          have h4 := cmt_le (c :: r)
          rw [List.length_drop] at this
          omega
        · rw [skp_no c r h1 h2]; exact Nat.zero_le _
theorem one_le {l : List UInt8} {x : Int × List UInt8 × Nat} (h : one l = .ok x) : 1 ≤ x.2.2 ∧ x.2.2 ≤ l.length ∧ x.2.1.length ≤ l.length ∧ x.1 ≠ 6 := by
  cases l with
  | nil => simp [one] at h
  | cons c r =>
    have hs := fun p => spn_le p (c :: r)
    simp only [one] at h
    split at h
    · cases h
      rename_i hc
      have := spn_yes isWrd c r (by simp [isWrd, hc])
      refine ⟨by simp only; omega, hs _, by simp only [List.length_take]; omega, by simp⟩
    · split at h
      · rename_i hc
        have := spn_yes isDig c r hc
        split at h
        · cases h
        · cases h; refine ⟨by simp only; omega, hs _, by simp only [List.length_take]; omega, by simp⟩
      · split at h
        · cases hq : quo r with
          | none => rw [hq] at h; cases h
          | some y =>
            rw [hq] at h; cases h
            have := quo_le r y hq
            simp only [List.length_cons]
            refine ⟨by omega, by omega, by omega, by simp⟩
        · split at h
          · cases hq : sla r with
            | none => rw [hq] at h; cases h
            | some y =>
              rw [hq] at h; cases h
              have := sla_le r y hq
              simp only [List.length_cons]
              refine ⟨by omega, by omega, by omega, by simp⟩
          · split at h
            · cases h; simp
            · cases h
/-- The tokens ts lie read, at byte k. -/
structure LxAt (l : List UInt8) (k : Nat) (ts : List Tok) : Prop where
  le : k ≤ l.length
  cnt : ts.length ≤ 2000
  eq : lexGo (1, 1) 0 l = (lexGo (plc (1, 1) (l.take k)) ts.length (l.drop k)).map (ts ++ ·)
theorem except_map_id {ε α : Type} (x : Except ε α) (f : α → α) (h : ∀ a, f a = a) : x.map f = x := by cases x <;> simp [Except.map, h]
theorem LxAt.start (l : List UInt8) : LxAt l 0 [] where
  le := Nat.zero_le _
  cnt := Nat.zero_le _
  eq := by simp [plc, except_map_id]
section
variable {l : List UInt8} {k : Nat} {ts : List Tok}
/-- Where the next token begins. -/
def nxk (l : List UInt8) (k : Nat) : Nat := k + skp (l.drop k)
theorem nxk_le (h : k ≤ l.length) : nxk l k ≤ l.length := by
  have := skp_le' (l.drop k)
  rw [List.length_drop] at this
  unfold nxk; omega
theorem LxAt.fin (h : LxAt l k ts) (he : l.length ≤ nxk l k) : lexGo (1, 1) 0 l = .ok (ts ++ [⟨6, [], (plc (1, 1) (l.take (nxk l k))).1, (plc (1, 1) (l.take (nxk l k))).2⟩]) := by
  have hd : (l.drop k).drop (skp (l.drop k)) = [] := by
    rw [List.drop_drop]; exact List.drop_eq_nil_of_le (by unfold nxk at he; omega)
  rw [h.eq, lexGo_end _ _ _ hd]
  have : plc (plc (1, 1) (l.take k)) (l.drop k) = plc (1, 1) (l.take (nxk l k)) := by
    have h2 := plc_at l k (l.length - k)
    rw [List.take_of_length_le (show (l.drop k).length ≤ l.length - k by rw [List.length_drop]; exact Nat.le_refl _), List.take_of_length_le (show l.length ≤ k + (l.length - k) by omega)] at h2
    rw [h2, List.take_of_length_le he]
  rw [this]; rfl
theorem LxAt.cons (h : LxAt l k ts) (he : nxk l k < l.length) : ∃ c r, l.drop (nxk l k) = c :: r ∧ (l.drop k).drop (skp (l.drop k)) = c :: r := by
  refine ⟨l[nxk l k], l.drop (nxk l k + 1), List.drop_eq_getElem_cons he, ?_⟩
  rw [List.drop_drop]; exact List.drop_eq_getElem_cons he
theorem LxAt.bad (h : LxAt l k ts) {c : UInt8} {r : List UInt8} (hc : (l.drop k).drop (skp (l.drop k)) = c :: r) {e : Int} (h1 : one (c :: r) = .error e) : lexGo (1, 1) 0 l = .error ⟨e, (plc (1, 1) (l.take (nxk l k))).1, (plc (1, 1) (l.take (nxk l k))).2⟩ := by
  rw [h.eq, lexGo_bad _ _ _ c r e hc h1, plc_at]; rfl
theorem LxAt.full (h : LxAt l k ts) {c : UInt8} {r : List UInt8} (hc : (l.drop k).drop (skp (l.drop k)) = c :: r) {x : Int × List UInt8 × Nat} (h1 : one (c :: r) = .ok x) (hn : 2000 ≤ ts.length) : lexGo (1, 1) 0 l = .error ⟨1, (plc (1, 1) (l.take (nxk l k))).1, (plc (1, 1) (l.take (nxk l k))).2⟩ := by
  rw [h.eq, lexGo_full _ _ _ c r x hc h1 hn, plc_at]; rfl
theorem LxAt.next (h : LxAt l k ts) {c : UInt8} {r : List UInt8} (hc : (l.drop k).drop (skp (l.drop k)) = c :: r) {a : Int} {t : List UInt8} {m : Nat} (h1 : one (c :: r) = .ok (a, t, m)) (hn : ts.length < 2000) :
    LxAt l (nxk l k + m) (ts ++ [⟨a, t, (plc (1, 1) (l.take (nxk l k))).1, (plc (1, 1) (l.take (nxk l k))).2⟩]) := by
  obtain ⟨g1, g2, g3, g4⟩ := one_le h1
  simp only at g1 g2
  have hlen := congrArg List.length hc
  simp only [List.length_drop] at hlen
  have hle := h.le
  refine ⟨by unfold nxk; omega, by simp; omega, ?_⟩
  rw [h.eq, lexGo_one _ _ _ c r a t m hc h1 g1 hn, plc_at, plc_at]
  have e1 : (c :: r).drop m = l.drop (nxk l k + m) := by rw [← hc, List.drop_drop, List.drop_drop]; congr 1; unfold nxk; omega
  rw [e1, show k + (skp (l.drop k) + m) = nxk l k + m from by unfold nxk; omega]
  simp only [List.length_append, List.length_cons, List.length_nil, Nat.zero_add]
  cases lexGo (plc (1, 1) (l.take (nxk l k + m))) (ts.length + 1) (l.drop (nxk l k + m)) with
  | error e => rfl
  | ok y => simp only [Except.map, nxk, List.append_assoc, List.singleton_append]
end
/-- What is known of the tokens of a text: the last one is the end, and no other. -/
theorem lexGo_ok : ∀ (n : Nat) (p : Nat × Nat) (i : Nat) (l : List UInt8) (ts : List Tok), l.length ≤ n → lexGo p i l = .ok ts → ∃ qs e, ts = qs ++ [e] ∧ e.kind = 6 ∧ (∀ t ∈ qs, t.kind ≠ 6) ∧ ∀ t ∈ ts, t.text.length ≤ l.length
  | n, p, i, l, ts, hn, h => by
    cases hd : l.drop (skp l) with
    | nil =>
      rw [lexGo_end p i l hd] at h; cases h
      exact ⟨[], _, rfl, rfl, by simp, by simp⟩
    | cons c r =>
      have hlen := congrArg List.length hd
      simp only [List.length_drop, List.length_cons] at hlen
      cases h1 : one (c :: r) with
      | error e => rw [lexGo_bad p i l c r e hd h1] at h; cases h
      | ok x =>
        by_cases hi : 2000 ≤ i
        · rw [lexGo_full p i l c r x hd h1 hi] at h; cases h
        · obtain ⟨a, t, m⟩ := x
          obtain ⟨g1, g2, g3, g4⟩ := one_le h1
          simp only at g1 g2 g3 g4
          rw [lexGo_one p i l c r a t m hd h1 g1 (by omega)] at h
          cases hr : lexGo (plc p (l.take (skp l + m))) (i + 1) ((c :: r).drop m) with
          | error e => rw [hr] at h; cases h
          | ok y =>
            rw [hr] at h
            simp only [Except.map] at h
            cases h
            cases n with
            | zero => omega
            | succ n =>
              obtain ⟨qs, e, rfl, he, has, ht⟩ := lexGo_ok n _ _ _ y (by simp only [List.length_drop, List.length_cons]; omega) hr
              refine ⟨_ :: qs, e, rfl, he, ?_, ?_⟩
              · intro t ht
                rcases List.mem_cons.1 ht with rfl | ht
                · exact g4
                · exact has t ht
              · intro t ht2
                rcases List.mem_cons.1 ht2 with rfl | ht2
                · show t.length ≤ l.length
                  rw [List.length_cons] at g3; omega
                · have := ht t ht2
                  rw [List.length_drop, List.length_cons] at this; omega
end Go.Proofs.YtkhhlmonhapmaaaGreatDoor
/- The reference of the lexer: All, over symbolic memory. -/
namespace Go.Proofs.YtkhhlmonhapmaaaGreatDoor
open Go.RowKit
set_option linter.unusedSimpArgs false
set_option linter.unusedVariables false
/-- The cells of tokens. -/
def Tok.cells (t : Tok) : List AV := [.x (.int .i64 t.kind), .x (.string (bs t.text)), .x (.int .i64 (t.line : Nat)), .x (.int .i64 (t.col : Nat))]
def ta (l : List Tok) : List AV := l.flatMap Tok.cells
@[simp] theorem ta_len (l : List Tok) : (ta l).length = l.length * 4 := by
  induction l with
  | nil => rfl
  | cons j l ih => simp only [ta, List.flatMap_cons, List.length_append, List.length_cons] at ih ⊢; rw [ih]; simp [Tok.cells]; omega
theorem ta_app (l m : List Tok) : ta (l ++ m) = ta l ++ ta m := by simp [ta]
theorem ta_drop (l : List Tok) (k : Nat) (h : k < l.length) : (ta l).drop (k * 4) = l[k].cells ++ ta (l.drop (k + 1)) := by
  induction l generalizing k with
  | nil => simp at h
  | cons j l ih =>
    have hc : j.cells.length = 4 := rfl
    cases k with
    | zero => simp [ta]
    | succ k =>
      simp only [ta, List.flatMap_cons, List.drop_succ_cons, List.getElem_cons_succ] at ih ⊢
      rw [show (k + 1) * 4 = 4 + k * 4 from by omega, ← List.drop_drop, List.drop_append_of_le_length (by omega), show j.cells.drop 4 = [] from rfl, List.nil_append]
      exact ih k (by simpa using h)
def toksOf : Except Flt (List Tok) → List Tok | .ok l => l | .error _ => []
def fltOf : Except Flt (List Tok) → Flt | .ok _ => ⟨0, 0, 0⟩ | .error f => f
def Flt.av (f : Flt) : AV := .x (.agg #[.int .i64 f.code, .int .i64 (f.line : Nat), .int .i64 (f.col : Nat)])
theorem one_err {l : List UInt8} {e : Int} (h : one l = .error e) : 50 ≤ e ∧ e ≤ 53 := by
  cases l with
  | nil => simp [one] at h; omega
  | cons c r =>
    simp only [one] at h
    repeat' (first | (split at h) | (cases h; done) | (cases h; omega) | fail)
    all_goals (first | (cases h; omega) | fail)
end Go.Proofs.YtkhhlmonhapmaaaGreatDoor
/- The reference's parser: what it sees. -/
namespace Go.Proofs.YtkhhlmonhapmaaaGreatDoor
open Go.RowKit
set_option linter.unusedSimpArgs false
set_option linter.unusedVariables false
/-- The parser's cells: its tokens, its place, its fault, its items. -/
def pc (ts : List Tok) (k : Nat) (e l c : Int) (sv : AV) : List AV := [.sq ts.length (ta ts), .x (.int .i64 k), .x (.int .i64 e), .x (.int .i64 l), .x (.int .i64 c), sv]
def Tok.av (t : Tok) : AV := .x (.agg #[.int .i64 t.kind, .string (bs t.text), .int .i64 (t.line : Nat), .int .i64 (t.col : Nat)])
end Go.Proofs.YtkhhlmonhapmaaaGreatDoor
/- The reference's parser: a token taken, a sign, a number. -/
namespace Go.Proofs.YtkhhlmonhapmaaaGreatDoor
open Go.RowKit
set_option linter.unusedSimpArgs false
set_option linter.unusedVariables false
/-- The last token is the end, and no other. -/
def VT (ts : List Tok) : Prop := ∀ k, (h : k < ts.length) → ts[k].kind ≠ 6 → k + 1 < ts.length
/-- The fault only comes; the place only goes on. -/
structure St (ts : List Tok) (k : Nat) (e : Int) (k' : Nat) (e' : Int) : Prop where
  le : k ≤ k'
  lt : k' < ts.length
  bad : e' = 0 → e = 0
end Go.Proofs.YtkhhlmonhapmaaaGreatDoor
/- The reference's parser: numbers, policies, names. -/
namespace Go.Proofs.YtkhhlmonhapmaaaGreatDoor
open Go.RowKit
set_option linter.unusedSimpArgs false
set_option linter.unusedVariables false
end Go.Proofs.YtkhhlmonhapmaaaGreatDoor
/- Rows of rungs. -/
namespace Go.Proofs.YtkhhlmonhapmaaaGreatDoor
open Go.RowKit
set_option linter.unusedSimpArgs false
set_option linter.unusedVariables false
/-- The cells of rungs. -/
def ra (l : List (Int × Int)) : List AV := l.flatMap fun s => [.x (.int .i64 s.1), .x (.int .u64 s.2)]
@[simp] theorem ra_len (l : List (Int × Int)) : (ra l).length = l.length * 2 := by
  induction l with
  | nil => rfl
  | cons j l ih => simp only [ra, List.flatMap_cons, List.length_append, List.length_cons] at ih ⊢; rw [ih]; simp; omega
theorem ra_app (l m : List (Int × Int)) : ra (l ++ m) = ra l ++ ra m := by simp [ra]
end Go.Proofs.YtkhhlmonhapmaaaGreatDoor
/- A job, whole: its cells. -/
namespace Go.Proofs.YtkhhlmonhapmaaaGreatDoor
open Go.RowKit
set_option linter.unusedSimpArgs false
set_option linter.unusedVariables false
/-- The cells of variables. -/
def ea (l : List (List UInt8 × List UInt8)) : List AV := l.flatMap fun s => [.x (.string (bs s.1)), .x (.string (bs s.2))]
@[simp] theorem ea_len (l : List (List UInt8 × List UInt8)) : (ea l).length = l.length * 2 := by
  induction l with
  | nil => rfl
  | cons j l ih => simp only [ea, List.flatMap_cons, List.length_append, List.length_cons] at ih ⊢; rw [ih]; simp; omega
theorem ea_app (l m : List (List UInt8 × List UInt8)) : ea (l ++ m) = ea l ++ ea m := by simp [ea]
/-- A job, whole. -/
structure JF where
  name : List UInt8
  run : List UInt8
  env : List (List UInt8 × List UInt8)
  needs : List (List UInt8)
  hasr : Bool
  ready : List UInt8
  restart : Int
  base : Int
  cap : Int
  stable : Int
  burst : Int
  window : Int
  ladder : List (Int × Int)
  line : Int
  col : Int
def JF.cells (j : JF) : List AV := [.x (.string (bs j.name)), .x (.string (bs j.run)), .sq j.env.length (ea j.env), .sq j.needs.length (sa j.needs), .x (.bool j.hasr), .x (.string (bs j.ready)), .x (.int .i64 j.restart), .x (.int .u64 j.base), .x (.int .u64 j.cap), .x (.int .u64 j.stable), .x (.int .i64 j.burst), .x (.int .u64 j.window), .sq j.ladder.length (ra j.ladder), .x (.int .i64 j.line), .x (.int .i64 j.col)]
def U64 (v : Int) : Prop := 0 ≤ v ∧ v ≤ 18446744073709551615
/-- A job with short texts. -/
structure JSmall (j : JF) : Prop where
  name : j.name.length ≤ 8
  run : j.run.length ≤ 16
  env : j.env.length ≤ 2
  enve : ∀ p ∈ j.env, p.1.length ≤ 8 ∧ p.2.length ≤ 8
  needs : j.needs.length ≤ 4
  neede : ∀ s ∈ j.needs, s.length ≤ 8
  ready : j.ready.length ≤ 16
  ladder : j.ladder.length ≤ 4
  laddere : ∀ p ∈ j.ladder, U64 p.2
  base : U64 j.base
  cap : U64 j.cap
  stable : U64 j.stable
  window : U64 j.window
  burst : -9223372036854775808 ≤ j.burst ∧ j.burst ≤ 9223372036854775807
theorem ea_drop (l : List (List UInt8 × List UInt8)) (k : Nat) (h : k < l.length) : (ea l).drop (k * 2) = .x (.string (bs l[k].1)) :: .x (.string (bs l[k].2)) :: ea (l.drop (k + 1)) := by
  induction l generalizing k with
  | nil => simp at h
  | cons j l ih =>
    cases k with
    | zero => simp [ea]
    | succ k =>
      simp only [ea, List.flatMap_cons, List.drop_succ_cons, List.getElem_cons_succ] at ih ⊢
      rw [show (k + 1) * 2 = 2 + k * 2 from by omega, ← List.drop_drop]
      exact ih k (by simpa using h)
def jfa (l : List JF) : List AV := l.flatMap JF.cells
@[simp] theorem jfa_len (l : List JF) : (jfa l).length = l.length * 15 := by
  induction l with
  | nil => rfl
  | cons j l ih => simp only [jfa, List.flatMap_cons, List.length_append, List.length_cons] at ih ⊢; rw [ih]; simp [JF.cells]; omega
end Go.Proofs.YtkhhlmonhapmaaaGreatDoor
/- The jobs of a Procfile, in plain Lean: what both parsers compute. No program in sight. -/
namespace Go.Proofs.YtkhhlmonhapmaaaGreatDoor
open Go.RowKit
set_option linter.unusedSimpArgs false
set_option linter.unusedVariables false
/-- The token at k. -/
def tkA (ts : List Tok) (k : Nat) : Tok := ts.getD k ⟨6, [], 0, 0⟩
def flt (e : Int) (t : Tok) : Flt := ⟨e, t.line, t.col⟩
/-- A token of a kind, of at most so many bytes; a sign. -/
def gTake (ts : List Tok) (k : Nat) (kind : Int) (most : Nat) : Except Flt Tok :=
  if (tkA ts k).kind ≠ kind then .error (flt 60 (tkA ts k)) else if most < (tkA ts k).text.length then .error (flt 1 (tkA ts k)) else .ok (tkA ts k)
def gIs (ts : List Tok) (k : Nat) (s : List UInt8) : Bool := (tkA ts k).kind == 5 && (tkA ts k).text == s
def gSign (ts : List Tok) (k : Nat) (s : List UInt8) : Except Flt Unit := if gIs ts k s then .ok () else .error (flt 60 (tkA ts k))
def numv (l : List UInt8) : Int := l.foldl (fun n c => 10 * n + (c.toNat - 48)) 0
def gNum (ts : List Tok) (k : Nat) : Except Flt Int := (gTake ts k 2 8192).map fun t => numv t.text
/-- The words of items. -/
def wRun : List UInt8 := [114, 117, 110]
def wEnv : List UInt8 := [101, 110, 118]
def wNeeds : List UInt8 := [110, 101, 101, 100, 115]
def wReady : List UInt8 := [114, 101, 97, 100, 121]
def wRestart : List UInt8 := [114, 101, 115, 116, 97, 114, 116]
def wBackoff : List UInt8 := [98, 97, 99, 107, 111, 102, 102]
def wBurst : List UInt8 := [98, 117, 114, 115, 116]
def wStop : List UInt8 := [115, 116, 111, 112]
def wJob : List UInt8 := [106, 111, 98]
def items : List (List UInt8) := [wRun, wEnv, wNeeds, wReady, wRestart, wBackoff, wBurst, wStop]
/-- The signal with a name. -/
def sigv (s : List UInt8) : Int :=
  if s = [72, 85, 80] then 1 else if s = [73, 78, 84] then 2 else if s = [81, 85, 73, 84] then 3 else if s = [85, 83, 82, 49] then 10 else if s = [85, 83, 82, 50] then 12 else if s = [84, 69, 82, 77] then 15 else 0
/-- A name of which there may not be another one. -/
def gName (ts : List Tok) (k : Nat) (full : Bool) : Except Flt Tok := do
  let t ← gTake ts k 1 32
  if full then .error (flt 1 t) else .ok t
/-- A variable: three tokens. -/
def gVar (ts : List Tok) (k : Nat) (env : List (List UInt8 × List UInt8)) : Except Flt (List UInt8 × List UInt8) := do
  let t ← gName ts k (decide (16 ≤ env.length))
  if env.any (·.1 == t.text) then .error (flt 5 t) else
  gSign ts (k + 1) [61]
  let v ← gTake ts (k + 2) 3 512
  .ok (t.text, v.text)
def gNeed (ts : List Tok) (k : Nat) (out : List (List UInt8)) : Except Flt (List UInt8) := do
  let t ← gName ts k (decide (16 ≤ out.length))
  if out.contains t.text then .error (flt 5 t) else .ok t.text
/-- A rung: two tokens. -/
def gRung (ts : List Tok) (k : Nat) (out : List (Int × Int)) : Except Flt (Int × Int) := do
  let t ← gTake ts k 1 8192
  if 5 ≤ out.length then .error (flt 1 t) else
  if sigv t.text = 0 then .error (flt 4 t) else
  let n ← gNum ts (k + 1)
  .ok (sigv t.text, n)
/-- Elements of st tokens each, with commas between them: what they are, and where they end. -/
def gList {α : Type} (el : Nat → List α → Except Flt α) (st : Nat) (ts : List Tok) (k : Nat) (out : List α) : Except Flt (List α × Nat) :=
  match el k out with
  | .error f => .error f
  | .ok x => if h : k + st < ts.length ∧ gIs ts (k + st) [44] = true then gList el st ts (k + st + 1) (out ++ [x]) else .ok (out ++ [x], k + st)
termination_by ts.length - k
decreasing_by omega
def gPol (ts : List Tok) (k : Nat) : Except Flt Int := do
  let t ← gTake ts k 1 8192
  if t.text = [97, 108, 119, 97, 121, 115] then .ok 3 else if t.text = [111, 110, 45, 102, 97, 105, 108, 117, 114, 101] then .ok 2 else if t.text = [110, 101, 118, 101, 114] then .ok 1 else .error (flt 60 t)
/-- What comes behind the word of an item, which stands ahead of k. -/
def gItem (ts : List Tok) (k : Nat) (w : List UInt8) (j : JF) : Except Flt (JF × Nat) :=
  if w = wRun then (gTake ts k 3 512).map fun t => ({ j with run := t.text }, k + 1)
  else if w = wEnv then (gVar ts k j.env).map fun v => ({ j with env := j.env ++ [v] }, k + 3)
  else if w = wNeeds then (gList (gNeed ts) 1 ts k []).map fun x => ({ j with needs := x.1 }, x.2)
  else if w = wReady then (gTake ts k 4 128).map fun t => ({ j with hasr := true, ready := t.text }, k + 1)
  else if w = wRestart then (gPol ts k).map fun n => ({ j with restart := n }, k + 1)
  else if w = wBackoff then do
    let a ← gNum ts k
    let b ← gNum ts (k + 1)
    let c ← gNum ts (k + 2)
    .ok ({ j with base := a, cap := b, stable := c }, k + 3)
  else if w = wBurst then do
    let n ← gNum ts k
    if n < 1 ∨ 16 < n then .error (flt 2 (tkA ts k)) else
    let m ← gNum ts (k + 1)
    .ok ({ j with burst := n, window := m }, k + 2)
  else (gList (gRung ts) 2 ts k []).map fun x => ({ j with ladder := x.1 }, x.2)
/-- The items of a job, up to its end. -/
def gItems (ts : List Tok) (name : Tok) (k : Nat) (seen : List (List UInt8)) (j : JF) : Except Flt (JF × Nat) :=
  if gIs ts k [125] then (if seen.contains wRun then .ok (j, k + 1) else .error (flt 6 name))
  else if (tkA ts k).kind ≠ 1 ∨ ¬ items.contains (tkA ts k).text then .error (flt 60 (tkA ts k))
  else if (tkA ts k).text ≠ wEnv ∧ seen.contains (tkA ts k).text then .error (flt 5 (tkA ts k))
  else match gItem ts (k + 1) (tkA ts k).text j with
    | .error f => .error f
    | .ok x => if h : k < x.2 ∧ k < ts.length then gItems ts name x.2 (if (tkA ts k).text = wEnv then seen else seen ++ [(tkA ts k).text]) x.1 else .error (flt 60 (tkA ts k))
termination_by ts.length - k
decreasing_by omega
def job0 (t : Tok) : JF := { name := t.text, run := [], env := [], needs := [], hasr := false, ready := [], restart := 2, base := 100, cap := 10000, stable := 10000, burst := 5, window := 60000, ladder := [(15, 5000)], line := t.line, col := t.col }
def gJob (ts : List Tok) (k : Nat) (full : Bool) : Except Flt (JF × Nat) := do
  let w ← gTake ts k 1 8192
  if w.text ≠ wJob then .error (flt 60 w) else
  let t ← gName ts (k + 1) full
  gSign ts (k + 2) [123]
  gItems ts t (k + 3) [] (job0 t)
def gJobs (ts : List Tok) (k : Nat) (out : List JF) : Except Flt (List JF) :=
  if (tkA ts k).kind = 6 then .ok out
  else match gJob ts k (decide (32 ≤ out.length)) with
    | .error f => .error f
    | .ok x => if h : k < x.2 ∧ k < ts.length then gJobs ts x.2 (out ++ [x.1]) else .ok out
termination_by ts.length - k
decreasing_by omega
/-- The jobs of a text, or its fault. -/
def gParse (s : List UInt8) : Except Flt (List JF) := match lex s with
  | .error f => .error f
  | .ok ts => gJobs ts 0 []
end Go.Proofs.YtkhhlmonhapmaaaGreatDoor
/- The reference's parser, exact: a fault noted, a token taken, a sign. -/
namespace Go.Proofs.YtkhhlmonhapmaaaGreatDoor
open Go.RowKit
set_option linter.unusedSimpArgs false
set_option linter.unusedVariables false
theorem tkA_get {ts : List Tok} {k : Nat} (h : k < ts.length) : tkA ts k = ts[k] := by simp [tkA, List.getD_eq_getElem?_getD, h]
/-- Where the parser stands: at the token k; its fault, (0, l, c) if there is none. -/
structure PS where
  k : Nat
  e : Int
  l : Int
  c : Int
def PS.cells (s : PS) (ts : List Tok) (sv : AV) : List AV := pc ts s.k s.e s.l s.c sv
/-- The first fault stays. -/
def PS.fail (s : PS) (e : Int) (t : Tok) : PS := if s.e = 0 then ⟨s.k, e, t.line, t.col⟩ else s
def PS.flt (s : PS) (f : Flt) : PS := if s.e = 0 then ⟨s.k, f.code, f.line, f.col⟩ else s
/-- On by n tokens, unless there is a fault. -/
def PS.on (s : PS) (n : Nat) : PS := if s.e = 0 then ⟨s.k + n, 0, s.l, s.c⟩ else s
/-- What an element that is read does to the parser. -/
def PS.upon {α : Type} (s : PS) (x : Except Flt α) (n : Nat) : PS := match x with
  | .ok _ => s.on n
  | .error f => s.flt f
/-- Is a text of digits. -/
def Digits (l : List UInt8) : Prop := ∀ c ∈ l, 48 ≤ c.toNat ∧ c.toNat ≤ 57
/-- Numbers are texts of at most 18 digits. -/
def NumTok (ts : List Tok) : Prop := ∀ t ∈ ts, t.kind = 2 → t.text.length ≤ 18 ∧ Digits t.text
end Go.Proofs.YtkhhlmonhapmaaaGreatDoor
/- The reference's parser, exact: what reading an element does, in one relation. -/
namespace Go.Proofs.YtkhhlmonhapmaaaGreatDoor
open Go.RowKit
set_option linter.unusedSimpArgs false
set_option linter.unusedVariables false
/-- From the state s, an element is read that ought to be x (its value and the place behind it): the state is s', the value v. A fault that lies stays, and nothing moves. -/
def Got {α : Type} (ts : List Tok) (s : PS) (x : Except Flt (α × Nat)) (s' : PS) (v : α) : Prop :=
  s'.k < ts.length ∧ s.k ≤ s'.k ∧ (s.e ≠ 0 → s' = s) ∧ (s.e = 0 → match x with
    | .ok p => v = p.1 ∧ s' = ⟨p.2, 0, s.l, s.c⟩
    | .error f => f.code ≠ 0 ∧ s'.e = f.code ∧ s'.l = f.line ∧ s'.c = f.col)
theorem Got.bind {α β : Type} {ts : List Tok} {s s1 s2 : PS} {x : Except Flt (α × Nat)} {y : α → Nat → Except Flt (β × Nat)} {a : α} {b : β} (h1 : Got ts s x s1 a) (h2 : Got ts s1 (y a s1.k) s2 b) : Got ts s (x >>= fun p => y p.1 p.2) s2 b := by
  obtain ⟨_, hq1, h1n, h1z⟩ := h1
  obtain ⟨hk, hq2, h2n, h2z⟩ := h2
  refine ⟨hk, Nat.le_trans hq1 hq2, fun h => ?_, fun h => ?_⟩
  · have e := h1n h
    subst e
    exact h2n h
  · have h1' := h1z h
    cases x with
    | ok p =>
      obtain ⟨e1, e2⟩ := h1'
      subst e1 e2
      exact h2z rfl
    | error f =>
      obtain ⟨g1, g2, g3, g4⟩ := h1'
      have e := h2n (by rw [g2]; exact g1)
      subst e
      exact ⟨g1, g2, g3, g4⟩
/-- The same with another text for what ought to be read. -/
theorem Got.of {α : Type} {ts : List Tok} {s s' : PS} {x y : Except Flt (α × Nat)} {v : α} (h : Got ts s x s' v) (e : y = x) : Got ts s y s' v := e ▸ h
/-- The value only counts where there is no fault. -/
theorem Got.val {α β : Type} {ts : List Tok} {s s' : PS} {x : Except Flt (α × Nat)} {v : α} (f : α → β) (h : Got ts s x s' v) : Got ts s (x.map fun p => (f p.1, p.2)) s' (f v) := by
  obtain ⟨hk, hq, hn, hz⟩ := h
  refine ⟨hk, hq, hn, fun e => ?_⟩
  have h' := hz e
  cases x with
  | ok p => exact ⟨by rw [h'.1], h'.2⟩
  | error g => exact h'
theorem Got.any {α : Type} {ts : List Tok} {s s' : PS} {x : Except Flt (α × Nat)} {v w : α} (h : Got ts s x s' v) (hb : s'.e ≠ 0) : Got ts s x s' w := by
  obtain ⟨hk, hq, hn, hz⟩ := h
  refine ⟨hk, hq, hn, fun e => ?_⟩
  have h' := hz e
  cases x with
  | ok p => exfalso; rw [h'.2] at hb; exact hb rfl
  | error g => exact h'
/-- Nothing is read. -/
theorem Got.pure {α : Type} {ts : List Tok} {s : PS} (hk : s.k < ts.length) (v : α) : Got ts s (.ok (v, s.k)) s v := ⟨hk, Nat.le_refl _, fun _ => rfl, fun e => ⟨rfl, by cases s; simp only at e; subst e; rfl⟩⟩
/-- A test, and its fault. -/
theorem Got.test {α : Type} {ts : List Tok} {s : PS} (hk : s.k < ts.length) (e2 : Int) (h2 : e2 ≠ 0) (t : Tok) (v : α) : Got ts s (.error (flt e2 t)) (s.fail e2 t) v := by
  refine ⟨by simp only [PS.fail]; split <;> exact hk, by simp only [PS.fail]; split <;> exact Nat.le_refl _, fun e => by simp only [PS.fail, if_neg e], fun e => ?_⟩
  simp only [PS.fail, if_pos e]
  exact ⟨h2, rfl, rfl, rfl⟩
/-- A fault ahead: nothing is read. -/
theorem Got.bad {α : Type} {ts : List Tok} {s : PS} (hk : s.k < ts.length) (hb : s.e ≠ 0) (x : Except Flt (α × Nat)) (v : α) : Got ts s x s v := ⟨hk, Nat.le_refl _, fun _ => rfl, fun e => absurd e hb⟩
theorem Got.lt {α : Type} {ts : List Tok} {s s' : PS} {x : Except Flt (α × Nat)} {v : α} (h : Got ts s x s' v) : s'.k < ts.length := h.1
theorem Got.ok {α : Type} {ts : List Tok} {s s' : PS} {x : Except Flt (α × Nat)} {v : α} (h : Got ts s x s' v) (hz : s'.e = 0) : s.e = 0 ∧ x = .ok (v, s'.k) ∧ s'.l = s.l ∧ s'.c = s.c := by
  obtain ⟨hk, -, hn, hz'⟩ := h
  by_cases e : s.e = 0
  · have h' := hz' e
    cases x with
    | ok p => obtain ⟨h1, h2⟩ := h'; subst h1 h2; exact ⟨e, rfl, rfl, rfl⟩
    | error g => exact absurd (h'.2.1 ▸ hz) h'.1
  · exact absurd ((hn e) ▸ hz) e
def polOf (t : Tok) : Except Flt Int := if t.text = [97, 108, 119, 97, 121, 115] then .ok 3 else if t.text = [111, 110, 45, 102, 97, 105, 108, 117, 114, 101] then .ok 2 else if t.text = [110, 101, 118, 101, 114] then .ok 1 else .error (flt 60 t)
end Go.Proofs.YtkhhlmonhapmaaaGreatDoor
