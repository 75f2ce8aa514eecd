import Derived.Test.YtkhhlmonhapmaaaGreatDoorW13
/- Jobs of tokens: two texts, one behind the other; tokens that are the same but for their places. No program in sight. -/
set_option linter.unusedSimpArgs false
set_option linter.unusedVariables false
namespace Go.Proofs.YtkhhlmonhapmaaaGreatDoor
open Go.RowKit
structure Ag (ts us : List Tok) (m : Nat) : Prop where
  same : ∀ k, k < m → tkA us k = tkA ts k
  ne : ∀ k, k < m → (tkA ts k).kind ≠ 6
  fin : (tkA ts m).kind = 6
  lt : ts.length = m + 1
  lu : m + 1 < us.length
  kw : (tkA us m).kind = 1
  tw : (tkA us m).text = wJob
  kn : (tkA us (m + 1)).kind = 1
  tn : (tkA us (m + 1)).text ∉ items
section
variable {α β : Type} {ts us : List Tok} {m k : Nat}
def A3 (x y : Except Flt α) (n m : Nat) : Prop := (∃ a, x = .ok a ∧ y = .ok a ∧ n ≤ m) ∨ ((∃ f, x = .error f) ∧ ((∃ f, y = .error f) ∨ ∃ a, y = .ok a ∧ n = m + 1))
def A2 (x y : Except Flt α) (n m : Nat) : Prop := (∃ a, x = .ok a ∧ y = .ok a ∧ n ≤ m) ∨ ((∃ f, x = .error f) ∧ ∃ f, y = .error f)
theorem A2.a3 {x y : Except Flt α} {n m : Nat} (h : A2 x y n m) : A3 x y n m := h.imp (fun h => h) fun ⟨h1, h2⟩ => ⟨h1, .inl h2⟩
theorem A2.bad {x y : Except Flt α} {n m : Nat} {f g : Flt} (hx : x = .error f) (hy : y = .error g) : A2 x y n m := .inr ⟨⟨f, hx⟩, g, hy⟩
theorem A2.of {x y : Except Flt α} {n m : Nat} (h : y = x) (hn : n ≤ m) : A2 x y n m := by
  subst h
  cases y with
  | error f => exact .bad rfl rfl
  | ok a => exact .inl ⟨a, rfl, rfl, hn⟩
theorem A2.bind {x y : Except Flt α} {f g : α → Except Flt β} {n n' m : Nat} (h : A2 x y n m) (hf : ∀ a, n ≤ m → A2 (f a) (g a) n' m) : A2 (x >>= f) (y >>= g) n' m := by
  rcases h with ⟨a, rfl, rfl, hn⟩ | ⟨⟨f1, rfl⟩, f2, rfl⟩
  · exact hf a hn
  · exact .bad rfl rfl
theorem A2.map {x y : Except Flt α} {f : α → β} {n m : Nat} (h : A2 x y n m) : A2 (x.map f) (y.map f) n m := by
  rcases h with ⟨a, rfl, rfl, hn⟩ | ⟨⟨f1, rfl⟩, f2, rfl⟩
  · exact .inl ⟨_, rfl, rfl, hn⟩
  · exact .bad rfl rfl
theorem Ag.is (h : Ag ts us m) (hk : k ≤ m) (s : List UInt8) : gIs us k s = gIs ts k s := by
  unfold gIs
  by_cases h1 : k < m
  · rw [h.same k h1]
  · obtain rfl : k = m := by omega
    rw [h.kw, h.fin]; rfl
theorem Ag.is_m (h : Ag ts us m) (s : List UInt8) : gIs ts m s = false := by unfold gIs; rw [h.fin]; rfl
theorem Ag.is_n (h : Ag ts us m) (s : List UInt8) : gIs us (m + 1) s = false := by unfold gIs; rw [h.kn]; rfl
theorem Ag.take_m (h : Ag ts us m) {kind : Int} {most : Nat} (hk : kind ≠ 6) : ∃ f, gTake ts m kind most = .error f := ⟨_, by unfold gTake; rw [if_pos (by rw [h.fin]; exact fun e => hk e.symm)]⟩
theorem Ag.take_lt (h : Ag ts us m) {kind : Int} {most : Nat} (hk : k < m) : gTake us k kind most = gTake ts k kind most := by unfold gTake; rw [h.same k hk]
theorem Ag.take (h : Ag ts us m) {kind : Int} {most : Nat} (hk : k ≤ m) (h1 : kind ≠ 1) (h6 : kind ≠ 6) : A2 (gTake ts k kind most) (gTake us k kind most) (k + 1) m := by
  by_cases hlt : k < m
  · exact .of (h.take_lt hlt) hlt
  · obtain rfl : k = m := by omega
    obtain ⟨f, hf⟩ := h.take_m (most := most) h6
    exact .bad hf (by unfold gTake; rw [if_pos (by rw [h.kw]; exact fun e => h1 e.symm)])
theorem Ag.num (h : Ag ts us m) (hk : k ≤ m) : A2 (gNum ts k) (gNum us k) (k + 1) m := (h.take hk (by decide) (by decide)).map
theorem Ag.sign (h : Ag ts us m) (hk : k ≤ m) (s : List UInt8) : A2 (gSign ts k s) (gSign us k s) (k + 1) m := by
  unfold gSign
  rw [h.is hk]
  by_cases hlt : k < m
  · exact .of (by rw [h.same k hlt]) hlt
  · obtain rfl : k = m := by omega
    rw [h.is_m]; exact .bad rfl rfl
theorem Ag.sign_n (h : Ag ts us m) (s : List UInt8) : ∃ f, gSign us (m + 1) s = .error f := by
  unfold gSign; rw [h.is_n]; exact ⟨_, rfl⟩
theorem bind_err {x : Except Flt α} {g : α → Except Flt β} (h : ∀ a, ∃ f, g a = .error f) : ∃ f, (x >>= g) = .error f := by
  cases x with
  | error f => exact ⟨f, rfl⟩
  | ok a => exact h a
theorem Ag.name_lt (h : Ag ts us m) (hk : k < m) (full : Bool) : A2 (gName ts k full) (gName us k full) (k + 1) m := by
  unfold gName
  rw [h.take_lt hk]
  exact .of rfl hk
theorem Ag.name_m (h : Ag ts us m) (full : Bool) : ∃ f, gName ts m full = .error f := by
  obtain ⟨f, hf⟩ := h.take_m (kind := 1) (most := 32) (by decide)
  exact ⟨f, by unfold gName; rw [hf]; rfl⟩
theorem Ag.var (h : Ag ts us m) (hk : k ≤ m) (env : List (List UInt8 × List UInt8)) : A2 (gVar ts k env) (gVar us k env) (k + 3) m := by
  by_cases hlt : k < m
  · unfold gVar
    refine (h.name_lt hlt _).bind fun t _ => ?_
    split
    · exact .bad rfl rfl
    · refine (h.sign (by omega) _).bind fun _ h2 => ?_
      exact (h.take (by omega) (by decide) (by decide)).bind fun v h3 => .of rfl (by omega)
  · obtain rfl : k = m := by omega
    obtain ⟨f, hf⟩ := h.name_m (decide (16 ≤ env.length))
    have e : gVar ts k env = .error f := by unfold gVar; rw [hf]; rfl
    obtain ⟨g, hg⟩ : ∃ g, gVar us k env = .error g := by
      unfold gVar
      refine bind_err fun t => ?_
      split
      · exact ⟨_, rfl⟩
      · obtain ⟨g, hg⟩ := h.sign_n [61]
        exact ⟨g, by rw [hg]; rfl⟩
    exact .bad e hg
theorem Ag.need (h : Ag ts us m) (hk : k ≤ m) (out : List (List UInt8)) : A3 (gNeed ts k out) (gNeed us k out) (k + 1) m := by
  by_cases hlt : k < m
  · refine A2.a3 ?_
    unfold gNeed
    refine (h.name_lt hlt _).bind fun t _ => .of rfl hlt
  · obtain rfl : k = m := by omega
    obtain ⟨f, hf⟩ := h.name_m (decide (16 ≤ out.length))
    refine .inr ⟨⟨f, by unfold gNeed; rw [hf]; rfl⟩, ?_⟩
    cases hy : gNeed us k out with
    | error g => exact .inl ⟨g, rfl⟩
    | ok a => exact .inr ⟨a, rfl, rfl⟩
theorem Ag.rung (h : Ag ts us m) (hk : k ≤ m) (out : List (Int × Int)) : A3 (gRung ts k out) (gRung us k out) (k + 2) m := by
  refine A2.a3 ?_
  by_cases hlt : k < m
  · unfold gRung
    rw [h.take_lt hlt]
    refine A2.bind (.of rfl hlt : A2 _ _ (k + 1) m) fun t _ => ?_
    split
    · exact .bad rfl rfl
    · split
      · exact .bad rfl rfl
      · exact (h.num (by omega)).bind fun n h3 => .of rfl (by omega)
  · obtain rfl : k = m := by omega
    obtain ⟨f, hf⟩ := h.take_m (kind := 1) (most := 8192) (by decide)
    obtain ⟨g, hg⟩ : ∃ g, gRung us k out = .error g := by
      unfold gRung
      have e : gTake us k 1 8192 = .ok (tkA us k) := by
        unfold gTake
        rw [if_neg (fun hn => hn h.kw), h.tw, if_neg (by decide)]
      rw [e]
      simp only [bind, Except.bind]
      split
      · exact ⟨_, rfl⟩
      · rw [if_pos (by rw [h.tw]; decide)]; exact ⟨_, rfl⟩
    exact .bad (by unfold gRung; rw [hf]; rfl) hg
theorem Ag.list (h : Ag ts us m) {ex ey : Nat → List α → Except Flt α} {st : Nat} (hst : 1 ≤ st) (he : ∀ k, k ≤ m → ∀ out, A3 (ex k out) (ey k out) (k + st) m) : ∀ (q k : Nat) (out : List α), m - k ≤ q → k ≤ m →
    (∃ v k', gList ex st ts k out = .ok (v, k') ∧ gList ey st us k out = .ok (v, k') ∧ k ≤ k' ∧ k' ≤ m) ∨ ((∃ f, gList ex st ts k out = .error f) ∧ ((∃ f, gList ey st us k out = .error f) ∨ ∃ v, gList ey st us k out = .ok (v, m + 1)))
  | q, k, out, hq, hk => by
    rcases he k hk out with ⟨a, hx, hy, hn⟩ | ⟨⟨f, hx⟩, ⟨g, hy⟩ | ⟨a, hy, hn⟩⟩
    · rw [gList, gList, hx, hy]
      simp only
      rw [h.is hn, h.lt]
      have hlu := h.lu
      by_cases hc : gIs ts (k + st) [44] = true
      · have hne : k + st ≠ m := fun e => by rw [e, h.is_m] at hc; cases hc
        rw [dif_pos ⟨by omega, hc⟩, dif_pos ⟨by omega, hc⟩]
        cases q with
        | zero => omega
        | succ q =>
          rcases Ag.list h hst he q (k + st + 1) (out ++ [a]) (by omega) (by omega) with ⟨v, k', h1, h2, h3, h4⟩ | h1
          · exact .inl ⟨v, k', h1, h2, by omega, h4⟩
          · exact .inr h1
      · rw [dif_neg (fun e => hc e.2), dif_neg (fun e => hc e.2)]
        exact .inl ⟨_, _, rfl, rfl, by omega, hn⟩
    · rw [gList, gList, hx, hy]
      exact .inr ⟨⟨_, rfl⟩, .inl ⟨_, rfl⟩⟩
    · rw [gList, gList, hx, hy]
      simp only
      rw [hn, dif_neg (fun e => by rw [h.is_n] at e; cases e.2)]
      exact .inr ⟨⟨_, rfl⟩, .inr ⟨_, rfl⟩⟩
theorem Ag.pol (h : Ag ts us m) (hk : k ≤ m) : A2 (gPol ts k) (gPol us k) (k + 1) m := by
  by_cases hlt : k < m
  · unfold gPol
    rw [h.take_lt hlt]
    exact .of rfl hlt
  · obtain rfl : k = m := by omega
    obtain ⟨f, hf⟩ := h.take_m (kind := 1) (most := 8192) (by decide)
    obtain ⟨g, hg⟩ : ∃ g, gPol us k = .error g := by
      unfold gPol
      have e : gTake us k 1 8192 = .ok (tkA us k) := by
        unfold gTake
        rw [if_neg (fun hn => hn h.kw), h.tw, if_neg (by decide)]
      rw [e]
      simp only [bind, Except.bind]
      rw [h.tw, if_neg (by decide), if_neg (by decide), if_neg (by decide)]
      exact ⟨_, rfl⟩
    exact .bad (by unfold gPol; rw [hf]; rfl) hg
def AI (x y : Except Flt (JF × Nat)) (k m : Nat) : Prop := (∃ j k', x = .ok (j, k') ∧ y = .ok (j, k') ∧ k ≤ k' ∧ k' ≤ m) ∨ ((∃ f, x = .error f) ∧ ((∃ f, y = .error f) ∨ ∃ j, y = .ok (j, m + 1)))
theorem AI.of {x y : Except Flt α} {k d m : Nat} {f : α → JF} (h : A2 x y (k + d) m) : AI (x.map fun t => (f t, k + d)) (y.map fun t => (f t, k + d)) k m := by
  rcases h with ⟨a, rfl, rfl, hn⟩ | ⟨⟨f1, rfl⟩, f2, rfl⟩
  · exact .inl ⟨_, _, rfl, rfl, by omega, hn⟩
  · exact .inr ⟨⟨_, rfl⟩, .inl ⟨_, rfl⟩⟩
theorem AI.of2 {x y : Except Flt (JF × Nat)} {k d m : Nat} (h : A2 x y (k + d) m) (hx : ∀ a, x = .ok a → a.2 = k + d) : AI x y k m := by
  rcases h with ⟨a, rfl, rfl, hn⟩ | ⟨⟨f1, rfl⟩, f2, rfl⟩
  · exact .inl ⟨a.1, a.2, rfl, rfl, by rw [hx a rfl]; omega, by rw [hx a rfl]; exact hn⟩
  · exact .inr ⟨⟨_, rfl⟩, .inl ⟨_, rfl⟩⟩
theorem AI.list {x y : Except Flt (α × Nat)} {k m : Nat} {f : α → JF} (h : (∃ v k', x = .ok (v, k') ∧ y = .ok (v, k') ∧ k ≤ k' ∧ k' ≤ m) ∨ ((∃ f, x = .error f) ∧ ((∃ f, y = .error f) ∨ ∃ v, y = .ok (v, m + 1)))) : AI (x.map fun t => (f t.1, t.2)) (y.map fun t => (f t.1, t.2)) k m := by
  rcases h with ⟨v, k', rfl, rfl, h1, h2⟩ | ⟨⟨f, rfl⟩, ⟨g, rfl⟩ | ⟨v, rfl⟩⟩
  · exact .inl ⟨_, _, rfl, rfl, h1, h2⟩
  · exact .inr ⟨⟨_, rfl⟩, .inl ⟨_, rfl⟩⟩
  · exact .inr ⟨⟨_, rfl⟩, .inr ⟨_, rfl⟩⟩
theorem Ag.item (h : Ag ts us m) (hk : k ≤ m) (w : List UInt8) (j : JF) : AI (gItem ts k w j) (gItem us k w j) k m := by
  unfold gItem
  split
  · exact AI.of (h.take hk (by decide) (by decide))
  split
  · exact AI.of (h.var hk _)
  split
  · exact AI.list (f := fun v => { j with needs := v }) (h.list (by decide) (fun k hk out => h.need hk out) (m - k) k [] (Nat.le_refl _) hk)
  split
  · exact AI.of (h.take hk (by decide) (by decide))
  split
  · exact AI.of (h.pol hk)
  split
  · refine AI.of2 (d := 3) ((h.num hk).bind fun a h1 => (h.num h1).bind fun b h2 => (h.num h2).bind fun c h3 => .of rfl h3) fun a ha => ?_
    cases h1 : gNum ts k with
    | error f => rw [h1] at ha; cases ha
    | ok a1 =>
      cases h2 : gNum ts (k + 1) with
      | error f => rw [h1] at ha; simp only [bind, Except.bind, h2] at ha; cases ha
      | ok a2 =>
        cases h3 : gNum ts (k + 2) with
        | error f => rw [h1] at ha; simp only [bind, Except.bind, h2, h3] at ha; cases ha
        | ok a3 => rw [h1] at ha; simp only [bind, Except.bind, h2, h3] at ha; cases ha; rfl
  split
  · by_cases hlt : k < m
    · refine AI.of2 (d := 2) ((h.num hk).bind fun a h1 => ?_) fun a ha => ?_
      · rw [h.same k hlt]
        split
        · exact .bad rfl rfl
        · exact (h.num h1).bind fun b h2 => .of rfl h2
      · cases h1 : gNum ts k with
        | error f => rw [h1] at ha; cases ha
        | ok a1 =>
          rw [h1] at ha
          simp only [bind, Except.bind] at ha
          split at ha
          · cases ha
          · cases h2 : gNum ts (k + 1) with
            | error f => rw [h2] at ha; cases ha
            | ok a2 => rw [h2] at ha; cases ha; rfl
    · obtain rfl : k = m := by omega
      rcases h.num hk with ⟨a, -, -, hn⟩ | ⟨⟨f, hf⟩, g, hg⟩
      · omega
      · exact .inr ⟨⟨f, by rw [hf]; rfl⟩, .inl ⟨g, by rw [hg]; rfl⟩⟩
  · exact AI.list (f := fun v => { j with ladder := v }) (h.list (by decide) (fun k hk out => h.rung hk out) (m - k) k [] (Nat.le_refl _) hk)
def AJ (x y : Except Flt (JF × Nat)) (k m : Nat) : Prop := (∃ j k', x = .ok (j, k') ∧ y = .ok (j, k') ∧ k < k' ∧ k' ≤ m) ∨ ((∃ f, x = .error f) ∧ ∃ f, y = .error f)
theorem Ag.items (h : Ag ts us m) (name : Tok) : ∀ (q k : Nat) (seen : List (List UInt8)) (j : JF), m - k ≤ q → k ≤ m → AJ (gItems ts name k seen j) (gItems us name k seen j) k m
  | q, k, seen, j, hq, hk => by
    by_cases hlt : k < m
    · rw [gItems, gItems, h.is hk, h.same k hlt]
      split
      · split
        · exact .inl ⟨_, _, rfl, rfl, Nat.lt_succ_self k, hlt⟩
        · exact .inr ⟨⟨_, rfl⟩, _, rfl⟩
      split
      · exact .inr ⟨⟨_, rfl⟩, _, rfl⟩
      split
      · exact .inr ⟨⟨_, rfl⟩, _, rfl⟩
      have hl := h.lt
      have hu := h.lu
      rcases h.item (show k + 1 ≤ m from hlt) (tkA ts k).text j with ⟨j', k', h1, h2, h3, h4⟩ | ⟨⟨f, h1⟩, ⟨g, h2⟩ | ⟨j', h2⟩⟩
      · rw [h1, h2]
        simp only
        rw [dif_pos ⟨by omega, by omega⟩, dif_pos ⟨by omega, by omega⟩]
        cases q with
        | zero => omega
        | succ q =>
          rcases Ag.items h name q k' (if (tkA ts k).text = wEnv then seen else seen ++ [(tkA ts k).text]) j' (by omega) h4 with ⟨j2, k2, g1, g2, g3, g4⟩ | g1
          · exact .inl ⟨j2, k2, g1, g2, by omega, g4⟩
          · exact .inr g1
      · rw [h1, h2]
        exact .inr ⟨⟨_, rfl⟩, _, rfl⟩
      · rw [h1, h2]
        refine .inr ⟨⟨_, rfl⟩, ?_⟩
        simp only
        rw [dif_pos ⟨by omega, by omega⟩, gItems, if_neg (by rw [h.is_n]; decide), if_pos (.inr (by rw [List.contains_iff_mem]; exact h.tn))]
        exact ⟨_, rfl⟩
    · obtain rfl : k = m := by omega
      exact .inr ⟨⟨_, by rw [gItems, if_neg (by rw [h.is_m]; decide), if_pos (.inl (by rw [h.fin]; decide))]⟩, _, by rw [gItems, if_neg (by rw [h.is (Nat.le_refl _), h.is_m]; decide), if_pos (.inr (by rw [h.tw]; decide))]⟩
theorem Ag.job (h : Ag ts us m) (hk : k < m) (full : Bool) : AJ (gJob ts k full) (gJob us k full) k m := by
  unfold gJob
  rw [h.take_lt hk]
  cases gTake ts k 1 8192 with
  | error f => exact .inr ⟨⟨_, rfl⟩, _, rfl⟩
  | ok w =>
    simp only [bind, Except.bind]
    split
    · exact .inr ⟨⟨_, rfl⟩, _, rfl⟩
    · by_cases h1 : k + 1 < m
      · rcases h.name_lt h1 full with ⟨t, hx, hy, hn⟩ | ⟨⟨f, hx⟩, g, hy⟩
        · rw [hx, hy]
          simp only
          rcases h.sign (show k + 2 ≤ m from h1) [123] with ⟨u, hx2, hy2, hn2⟩ | ⟨⟨f, hx2⟩, g, hy2⟩
          · rw [hx2, hy2]
            rcases h.items t (m - (k + 3)) (k + 3) [] (job0 t) (Nat.le_refl _) hn2 with ⟨j2, k2, g1, g2, g3, g4⟩ | g1
            · exact .inl ⟨j2, k2, g1, g2, by omega, g4⟩
            · exact .inr g1
          · rw [hx2, hy2]; exact .inr ⟨⟨_, rfl⟩, _, rfl⟩
        · rw [hx, hy]; exact .inr ⟨⟨_, rfl⟩, _, rfl⟩
      · have e : k + 1 = m := by omega
        subst e
        obtain ⟨f, hf⟩ := h.name_m full
        rw [hf]
        refine .inr ⟨⟨_, rfl⟩, ?_⟩
        obtain ⟨g, hg⟩ := h.sign_n [123]
        rw [show k + 2 = k + 1 + 1 from rfl, hg]
        cases gName us (k + 1) full with
        | error f => exact ⟨_, rfl⟩
        | ok t => exact ⟨_, rfl⟩
theorem Ag.jobs (h : Ag ts us m) : ∀ (q k : Nat) (out : List JF), m - k ≤ q → k ≤ m → (∃ r, gJobs ts k out = .ok r ∧ gJobs us k out = gJobs us m r) ∨ ((∃ f, gJobs ts k out = .error f) ∧ ∃ f, gJobs us k out = .error f)
  | q, k, out, hq, hk => by
    by_cases hlt : k < m
    · rw [gJobs, gJobs, h.same k hlt]
      rw [if_neg (h.ne k hlt), if_neg (h.ne k hlt)]
      have hl := h.lt
      have hu := h.lu
      rcases h.job hlt (decide (32 ≤ out.length)) with ⟨j, k', h1, h2, h3, h4⟩ | ⟨⟨f, h1⟩, g, h2⟩
      · rw [h1, h2]
        simp only
        rw [dif_pos ⟨h3, by omega⟩, dif_pos ⟨h3, by omega⟩]
        cases q with
        | zero => omega
        | succ q => exact Ag.jobs h q k' _ (by omega) h4
      · rw [h1, h2]
        exact .inr ⟨⟨_, rfl⟩, _, rfl⟩
    · obtain rfl : k = m := by omega
      refine .inl ⟨out, ?_, rfl⟩
      rw [gJobs, if_pos h.fin]
structure Sh (ts us : List Tok) (d : Nat) : Prop where
  kind : ∀ k, (tkA us (k + d)).kind = (tkA ts k).kind
  text : ∀ k, (tkA us (k + d)).text = (tkA ts k).text
  len : us.length = ts.length + d
def RE (R : α → β → Prop) : Except Flt α → Except Flt β → Prop
  | .error f, .error g => f.code = g.code
  | .ok a, .ok b => R a b
  | _, _ => False
theorem RE.bind {α' β' : Type} {R : α → β → Prop} {S : α' → β' → Prop} {x : Except Flt α} {y : Except Flt β} {f : α → Except Flt α'} {g : β → Except Flt β'} (h : RE R x y) (hf : ∀ a b, R a b → RE S (f a) (g b)) : RE S (x >>= f) (y >>= g) := by
  cases x with
  | error e => cases y with
    | error e' => exact h
    | ok b => exact h.elim
  | ok a => cases y with
    | error e' => exact h.elim
    | ok b => exact hf a b h
theorem RE.map {α' β' : Type} {R : α → β → Prop} {S : α' → β' → Prop} {x : Except Flt α} {y : Except Flt β} {f : α → α'} {g : β → β'} (h : RE R x y) (hf : ∀ a b, R a b → S (f a) (g b)) : RE S (x.map f) (y.map g) := by
  cases x with
  | error e => cases y with
    | error e' => exact h
    | ok b => exact h.elim
  | ok a => cases y with
    | error e' => exact h.elim
    | ok b => exact hf a b h
def RTok (t u : Tok) : Prop := u.kind = t.kind ∧ u.text = t.text
variable {d : Nat}
theorem Sh.is (h : Sh ts us d) (k : Nat) (s : List UInt8) : gIs us (k + d) s = gIs ts k s := by unfold gIs; rw [h.kind, h.text]
theorem Sh.take (h : Sh ts us d) (k : Nat) (kind : Int) (most : Nat) : RE RTok (gTake ts k kind most) (gTake us (k + d) kind most) := by
  unfold gTake
  rw [h.kind, h.text]
  split
  · rfl
  · split
    · rfl
    · exact ⟨h.kind k, h.text k⟩
theorem Sh.num (h : Sh ts us d) (k : Nat) : RE Eq (gNum ts k) (gNum us (k + d)) := (h.take k 2 8192).map fun t u e => by rw [e.2]
theorem Sh.sign (h : Sh ts us d) (k : Nat) (s : List UInt8) : RE Eq (gSign ts k s) (gSign us (k + d) s) := by
  unfold gSign
  rw [h.is]
  split <;> rfl
theorem Sh.name (h : Sh ts us d) (k : Nat) (full : Bool) : RE RTok (gName ts k full) (gName us (k + d) full) :=
  (h.take k 1 32).bind fun t u e => by
    cases full with
    | true => exact rfl
    | false => exact e
theorem Sh.at (h : Sh ts us d) (k i : Nat) : k + d + i = k + i + d := by omega
theorem Sh.var (h : Sh ts us d) (k : Nat) (env : List (List UInt8 × List UInt8)) : RE Eq (gVar ts k env) (gVar us (k + d) env) := by
  unfold gVar
  rw [h.at, h.at]
  refine (h.name k _).bind fun t u e => ?_
  rw [e.2]
  split
  · rfl
  · refine (h.sign _ _).bind fun _ _ _ => ?_
    refine (h.take _ _ _).bind fun v v' e' => ?_
    rw [e'.2]; rfl
theorem Sh.need (h : Sh ts us d) (k : Nat) (out : List (List UInt8)) : RE Eq (gNeed ts k out) (gNeed us (k + d) out) := by
  unfold gNeed
  refine (h.name k _).bind fun t u e => ?_
  rw [e.2]
  split <;> rfl
theorem Sh.rung (h : Sh ts us d) (k : Nat) (out : List (Int × Int)) : RE Eq (gRung ts k out) (gRung us (k + d) out) := by
  unfold gRung
  rw [h.at]
  refine (h.take k _ _).bind fun t u e => ?_
  rw [e.2]
  split
  · rfl
  · split
    · rfl
    · exact (h.num _).bind fun a b e' => by rw [e']; rfl
def RP (d : Nat) (x : α × Nat) (y : α × Nat) : Prop := y.1 = x.1 ∧ y.2 = x.2 + d
theorem Sh.list (h : Sh ts us d) {ex ey : Nat → List α → Except Flt α} {st : Nat} (he : ∀ k out, RE Eq (ex k out) (ey (k + d) out)) : ∀ (q k : Nat) (out : List α), ts.length - k ≤ q → RE (RP d) (gList ex st ts k out) (gList ey st us (k + d) out)
  | q, k, out, hq => by
    have hk := he k out
    rw [gList, gList]
    cases hx : ex k out with
    | error f => cases hy : ey (k + d) out with
      | error g => rw [hx, hy] at hk; exact hk
      | ok b => rw [hx, hy] at hk; exact hk.elim
    | ok a => cases hy : ey (k + d) out with
      | error g => rw [hx, hy] at hk; exact hk.elim
      | ok b =>
        rw [hx, hy] at hk
        obtain rfl : a = b := hk
        simp only
        rw [h.at, h.is, h.len]
        by_cases hc : k + st < ts.length ∧ gIs ts (k + st) [44] = true
        · rw [dif_pos hc, dif_pos ⟨by omega, hc.2⟩, h.at]
          cases q with
          | zero => omega
          | succ q => exact Sh.list h he q (k + st + 1) _ (by omega)
        · rw [dif_neg hc, dif_neg (fun e => hc ⟨by omega, e.2⟩)]
          exact ⟨rfl, rfl⟩
theorem Sh.pol (h : Sh ts us d) (k : Nat) : RE Eq (gPol ts k) (gPol us (k + d)) := by
  unfold gPol
  refine (h.take k _ _).bind fun t u e => ?_
  rw [e.2]
  repeat' (first | split | rfl | fail)
def RJ (j j' : JF) : Prop := ∃ l c, j' = { j with line := l, col := c }
theorem RJ.refl (j : JF) : RJ j j := ⟨j.line, j.col, rfl⟩
def RQ (d : Nat) (x y : JF × Nat) : Prop := RJ x.1 y.1 ∧ y.2 = x.2 + d
theorem Sh.item (h : Sh ts us d) (k : Nat) (w : List UInt8) {j j' : JF} (hj : RJ j j') : RE (RQ d) (gItem ts k w j) (gItem us (k + d) w j') := by
  obtain ⟨l, c, rfl⟩ := hj
  unfold gItem
  simp only [h.at]
  split
  · exact (h.take k _ _).map fun t u e => ⟨⟨l, c, by rw [e.2]⟩, rfl⟩
  split
  · exact (h.var k _).map fun t u e => ⟨⟨l, c, by rw [e]⟩, rfl⟩
  split
  · exact (h.list (fun k out => h.need k out) _ k [] (Nat.le_refl _)).map fun t u e => ⟨⟨l, c, by rw [e.1]⟩, e.2⟩
  split
  · exact (h.take k _ _).map fun t u e => ⟨⟨l, c, by rw [e.2]⟩, rfl⟩
  split
  · exact (h.pol k).map fun t u e => ⟨⟨l, c, by rw [e]⟩, rfl⟩
  split
  · exact (h.num k).bind fun a a' e1 => (h.num _).bind fun b b' e2 => (h.num _).bind fun x x' e3 => ⟨⟨l, c, by rw [e1, e2, e3]⟩, rfl⟩
  split
  · refine (h.num k).bind fun a a' e1 => ?_
    rw [e1]
    split
    · exact rfl
    · exact (h.num _).bind fun b b' e2 => ⟨⟨l, c, by rw [e2]⟩, rfl⟩
  · exact (h.list (fun k out => h.rung k out) _ k [] (Nat.le_refl _)).map fun t u e => ⟨⟨l, c, by rw [e.1]⟩, e.2⟩
theorem Sh.items (h : Sh ts us d) (name name' : Tok) : ∀ (q k : Nat) (seen : List (List UInt8)) (j j' : JF), ts.length - k ≤ q → RJ j j' → RE (RQ d) (gItems ts name k seen j) (gItems us name' (k + d) seen j')
  | q, k, seen, j, j', hq, hj => by
    rw [gItems, gItems, h.is, h.kind, h.text]
    split
    · split
      · exact ⟨hj, by simp only; omega⟩
      · exact rfl
    split
    · exact rfl
    split
    · exact rfl
    have hi := h.item (k + 1) (tkA ts k).text hj
    rw [← h.at] at hi
    cases hx : gItem ts (k + 1) (tkA ts k).text j with
    | error f => cases hy : gItem us (k + d + 1) (tkA ts k).text j' with
      | error g => rw [hx, hy] at hi; exact hi
      | ok b => rw [hx, hy] at hi; exact hi.elim
    | ok a => cases hy : gItem us (k + d + 1) (tkA ts k).text j' with
      | error g => rw [hx, hy] at hi; exact hi.elim
      | ok b =>
        rw [hx, hy] at hi
        obtain ⟨h1, h2⟩ := hi
        simp only
        rw [h.len]
        by_cases hc : k < a.2 ∧ k < ts.length
        · rw [dif_pos hc, dif_pos ⟨by omega, by omega⟩, h2]
          cases q with
          | zero => omega
          | succ q => exact Sh.items h name name' q a.2 _ a.1 b.1 (by omega) h1
        · rw [dif_neg hc, dif_neg (by omega)]
          exact rfl
theorem Sh.job (h : Sh ts us d) (k : Nat) (full : Bool) : RE (RQ d) (gJob ts k full) (gJob us (k + d) full) := by
  unfold gJob
  simp only [h.at]
  refine (h.take k _ _).bind fun t u e => ?_
  rw [e.2]
  split
  · exact rfl
  · refine (h.name _ _).bind fun t u e => ?_
    refine (h.sign _ _).bind fun _ _ _ => ?_
    refine h.items t u _ _ _ _ _ (Nat.le_refl _) ⟨u.line, u.col, ?_⟩
    simp only [job0, e.2]
def RL : List JF → List JF → Prop
  | [], [] => True
  | a :: l, b :: m => RJ a b ∧ RL l m
  | _, _ => False
theorem RL.refl : ∀ l : List JF, RL l l
  | [] => trivial
  | a :: l => ⟨RJ.refl a, RL.refl l⟩
theorem RL.len : ∀ {l m : List JF}, RL l m → m.length = l.length
  | [], [], _ => rfl
  | a :: l, b :: m, h => by simp [RL.len h.2]
  | [], b :: m, h => h.elim
  | a :: l, [], h => h.elim
theorem RL.app : ∀ {l m l' m' : List JF}, RL l m → RL l' m' → RL (l ++ l') (m ++ m')
  | [], [], _, _, _, h => h
  | a :: l, b :: m, _, _, h, h' => ⟨h.1, RL.app h.2 h'⟩
  | [], b :: m, _, _, h, _ => h.elim
  | a :: l, [], _, _, h, _ => h.elim
theorem Sh.jobs (h : Sh ts us d) : ∀ (q k : Nat) (out out' : List JF), ts.length - k ≤ q → RL out out' → RE RL (gJobs ts k out) (gJobs us (k + d) out')
  | q, k, out, out', hq, ho => by
    rw [gJobs, gJobs, h.kind]
    split
    · exact ho
    have hi := h.job k (decide (32 ≤ out.length))
    rw [RL.len ho]
    cases hx : gJob ts k (decide (32 ≤ out.length)) with
    | error f => cases hy : gJob us (k + d) (decide (32 ≤ out.length)) with
      | error g => rw [hx, hy] at hi; exact hi
      | ok b => rw [hx, hy] at hi; exact hi.elim
    | ok a => cases hy : gJob us (k + d) (decide (32 ≤ out.length)) with
      | error g => rw [hx, hy] at hi; exact hi.elim
      | ok b =>
        rw [hx, hy] at hi
        obtain ⟨h1, h2⟩ := hi
        simp only
        rw [h.len]
        by_cases hc : k < a.2 ∧ k < ts.length
        · rw [dif_pos hc, dif_pos ⟨by omega, by omega⟩, h2]
          cases q with
          | zero => omega
          | succ q => exact Sh.jobs h q a.2 _ _ (by omega) (ho.app ⟨h1, trivial⟩)
        · rw [dif_neg hc, dif_neg (by omega)]
          exact ho
theorem gItems_lt (name : Tok) : ∀ (q k : Nat) (seen : List (List UInt8)) (j : JF) (x : JF × Nat), ts.length - k ≤ q → gItems ts name k seen j = .ok x → k < x.2
  | q, k, seen, j, x, hq, h => by
    rw [gItems] at h
    split at h
    · split at h
      · cases h; exact Nat.lt_succ_self k
      · cases h
    split at h
    · cases h
    split at h
    · cases h
    split at h
    · cases h
    · split at h
      · rename_i y _ hc
        cases q with
        | zero => omega
        | succ q =>
          have := gItems_lt name q y.2 _ _ x (by omega) h
          omega
      · cases h
theorem gJob_lt {full : Bool} {x : JF × Nat} (h : gJob ts k full = .ok x) : k < x.2 := by
  unfold gJob at h
  cases h1 : gTake ts k 1 8192 with
  | error f => rw [h1] at h; cases h
  | ok w =>
    rw [h1] at h
    simp only [bind, Except.bind] at h
    split at h
    · cases h
    · cases h2 : gName ts (k + 1) full with
      | error f => rw [h2] at h; cases h
      | ok t =>
        rw [h2] at h
        simp only at h
        cases h3 : gSign ts (k + 2) [123] with
        | error f => rw [h3] at h; cases h
        | ok u =>
          rw [h3] at h
          have := gItems_lt t _ (k + 3) _ _ x (Nat.le_refl _) h
          omega
theorem tkA_lt (h : (tkA ts k).kind ≠ 6) : k < ts.length := by
  rcases Nat.lt_or_ge k ts.length with h1 | h1
  · exact h1
  · exfalso
    apply h
    unfold tkA
    rw [List.getD_eq_getElem?_getD, List.getElem?_eq_none h1]
    rfl
theorem gJobs_pre (pre : List JF) : ∀ (q k : Nat) (out r : List JF), ts.length - k ≤ q → gJobs ts k out = .ok r → out.length ≤ r.length ∧ (pre.length + r.length ≤ 32 → gJobs ts k (pre ++ out) = .ok (pre ++ r))
  | q, k, out, r, hq, h => by
    rw [gJobs] at h
    rw [gJobs]
    by_cases h6 : (tkA ts k).kind = 6
    · rw [if_pos h6] at h
      cases h
      exact ⟨Nat.le_refl _, fun _ => by rw [if_pos h6]⟩
    · rw [if_neg h6] at h
      rw [if_neg h6]
      cases hx : gJob ts k (decide (32 ≤ out.length)) with
      | error f => rw [hx] at h; cases h
      | ok x =>
        rw [hx] at h
        simp only at h
        by_cases hc : k < x.2 ∧ k < ts.length
        · rw [dif_pos hc] at h
          cases q with
          | zero => omega
          | succ q =>
            obtain ⟨g1, g2⟩ := gJobs_pre pre q x.2 _ r (by omega) h
            simp only [List.length_append, List.length_cons, List.length_nil] at g1
            refine ⟨by omega, fun hp => ?_⟩
            have e : decide (32 ≤ (pre ++ out).length) = decide (32 ≤ out.length) := by
              rw [List.length_append, decide_eq_false (by omega), decide_eq_false (by omega)]
            rw [e, hx]
            simp only
            rw [dif_pos hc, List.append_assoc]
            exact g2 hp
        · rw [dif_neg hc] at h
          exact absurd ⟨gJob_lt hx, tkA_lt h6⟩ hc
end
end Go.Proofs.YtkhhlmonhapmaaaGreatDoor
