import Derived.Test.YtfaljkenmbbbaaaDoorW6
/- A walk over symbolic memory: the one order stands for all (the proof). No program in sight. -/
namespace Go.Proofs.YtfaljkenmbbbaaaDoor
open Go.RowKit
set_option linter.unusedSimpArgs false
set_option linter.unusedVariables false
section
variable {P : Program} {B : List Hp} {l : List Oper} {L D pi : List Nat} {n0 : Option Nat} {z : List AV} {T0 : List AV} {Q : Post} {fin : List AV → List Hp → Prop}
theorem lisT_S (l : List Oper) (es : Nat → AV) (T : List AV) (S S' : Nat → Bool) : ∀ k, (∀ j, j < k → S j = S' j) → lisT l es T S k = lisT l es T S' k
  | 0, _ => rfl
  | k + 1, h => by
    simp only [lisT]
    rw [lisT_S l es T S S' k fun j hj => h j (by omega), h k (by omega)]
/-- What the given order has shown so far. -/
structure DI (P : Program) (B : List Hp) (l : List Oper) (L pi : List Nat) (T0 : List AV) (pd rest : List Nat) (es : Nat → AV) (T : List AV) : Prop where
  split : pi = pd ++ rest
  eq : T = lisT l es T0 (fun j => pd.contains j) l.length
  quiet : ∀ (k i : Nat) (o : Oper), pd[k]? = some i → i ∉ L → l[i]? = some o → ∀ H1, Evl P o (ev (lisT l es T0 (fun j => (pd.take k).contains j) l.length)) (B ++ H1) (es i)
def upd (es : Nat → AV) (i : Nat) (e : AV) : Nat → AV := fun j => if j = i then e else es j
theorem DI.es {pd rest : List Nat} {es es' : Nat → AV} {T : List AV} (h : DI P B l L pi T0 pd rest es T) (he : ∀ j ∈ pd, es' j = es j) : DI P B l L pi T0 pd rest es' T where
  split := h.split
  eq := by rw [h.eq]; exact lisT_congr l _ _ _ _ _ fun j _ hj => (he j (by simpa using hj)).symm
  quiet := fun k i o hk hL ho H1 => by
    have := h.quiet k i o hk hL ho H1
    rw [he i (List.mem_of_getElem? hk)]
    rwa [lisT_congr l es' es T0 _ _ fun j _ hj => he j (List.mem_of_mem_take (by simpa using hj))]
theorem DI.push (ok : MixOk l pi L D n0) {pd rest : List Nat} {es : Nat → AV} {T : List AV} {i : Nat} {o : Oper} (h : DI P B l L pi T0 pd (i :: rest) es T) (ho : l[i]? = some o) (e : AV) (hq : i ∉ L → ∀ H1, Evl P o (ev T) (B ++ H1) e) :
    DI P B l L pi T0 (pd ++ [i]) rest (upd es i e) (putT T o.dst e) := by
  have hn := ok.nodup
  rw [h.split] at hn
  have hip : i ∉ pd := fun hm => (List.nodup_append.1 hn).2.2 i hm i (by simp) rfl
  have hes : ∀ j ∈ pd, upd es i e j = es j := fun j hj => by unfold upd; rw [if_neg (by rintro rfl; exact hip hj)]
  have h' := h.es hes
  refine ⟨by rw [h.split]; simp, ?_, fun k j q hk hL hj H1 => ?_⟩
  · rw [h'.eq]
    have hp := lis_put ok.reg (upd es i e) T0 (fun j => pd.contains j) (fun j => (pd ++ [i]).contains j) i o ho (by simpa using hip) (by simp) (fun j hj => by simp [hj])
    rw [show upd es i e i = e by simp [upd]] at hp
    exact hp
  · by_cases hlt : k < pd.length
    · rw [List.getElem?_append_left hlt] at hk
      have := h'.quiet k j q hk hL hj H1
      rwa [List.take_append_of_le_length (by omega)]
    · have hlen := (List.getElem?_eq_some_iff.1 hk).1
      simp only [List.length_append, List.length_cons, List.length_nil] at hlen
      have hkk : k = pd.length := by omega
      subst hkk
      rw [List.getElem?_append_right (Nat.le_refl _)] at hk
      simp at hk
      subst hk
      rw [ho] at hj; cases hj
      have := hq hL H1
      rw [h'.eq] at this
      rw [List.take_left' rfl]
      simpa [upd] using this
theorem absorb (ok : MixOk l pi L D n0) : ∀ (rest pd : List Nat) (es : Nat → AV) (T : List AV) (H : List Hp), DI P B l L pi T0 pd rest es T → dm P B l L rest T H fin →
    ∃ q rest' es' T', rest = q ++ rest' ∧ DI P B l L pi T0 (pd ++ q) rest' es' T' ∧ dm P B l L rest' T' H fin ∧ (rest' = [] ∨ ∃ i r, rest' = i :: r ∧ i ∈ L) ∧ (∀ j, j ∉ q → es' j = es j) ∧ ∀ j ∈ q, j ∉ L
  | [], pd, es, T, H, h, d => ⟨[], [], es, T, rfl, by simpa using h, d, .inl rfl, fun _ _ => rfl, by simp⟩
  | i :: rest, pd, es, T, H, h, d => by
    have d0 := d
    obtain ⟨o, ho, hh⟩ := d
    rw [nthO_eq] at ho
    rcases hh with ⟨hL, e, hE, hd⟩ | ⟨hL, _⟩
    · have hL' : i ∉ L := by simpa using hL
      obtain ⟨q, rest', es', T', h1, h2, h3, h4, h5, h6⟩ := absorb ok rest (pd ++ [i]) _ _ H (h.push ok ho e fun _ => hE) hd
      refine ⟨i :: q, rest', es', T', by rw [h1]; rfl, by simpa using h2, h3, h4, fun j hj => ?_, fun j hj => ?_⟩
      · simp only [List.mem_cons, not_or] at hj
        rw [h5 j hj.2]; unfold upd; rw [if_neg hj.1]
      · rcases List.mem_cons.1 hj with rfl | hj
        · exact hL'
        · exact h6 j hj
    · exact ⟨[], i :: rest, es, T, rfl, by simpa using h, d0, .inr ⟨i, rest, rfl, by simpa using hL⟩, fun _ _ => rfl, by simp⟩
theorem ready_nil {listed : Array Bool} (hr : RegOk l) (hsz : listed.size = l.length) (hnil : Region.ready .any l.toArray listed = []) : ∀ j, j < l.length → listed.getD j false = true := by
  intro j
  induction j using Nat.strongRecOn with
  | _ j ihj =>
    intro hj
    cases hs : listed.getD j false with
    | true => rfl
    | false =>
      exfalso
      have hget : listed.getD j true = listed.getD j false := by
        have hi' : j < listed.size := by omega
        simp [Array.getD, hi']
      have hlj : l[j]? = some l[j] := by simp [hj]
      have : j ∈ Region.ready .any l.toArray listed := by
        rw [mem_ready]
        exact ⟨by rw [hget, hs], l[j], by simp [hj], fun e he hb => ihj e.on (hr.after j _ hlj e he).2 (by have := (hr.after j _ hlj e he).2; omega)⟩
      rw [hnil] at this; cases this
/-- All but those of D. -/
def allBut (n : Nat) (D : List Nat) : Array Bool := ((List.range n).map fun i => !D.contains i).toArray
def finM (P : Program) (B : List Hp) (l : List Oper) (D : List Nat) (n0 : Option Nat) (z : List AV) (Q : Post) (k : Nat) (T : List AV) (H : List Hp) : Prop :=
  match n0 with
  | none => awpA P l.toArray Q k (allBut l.length D) T (B ++ H)
  | some i => ∀ b, awpA P l.toArray Q k (allBut l.length D) (putT T ((nthO l i).bind (·.dst)) (.x (.pointer (some ⟨b, 0, none⟩)))) (B ++ (.box b z :: H))
theorem cnt_S (S S' : Nat → Bool) : ∀ k, (∀ j, j < k → S j = S' j) → cnt S k = cnt S' k
  | 0, _ => rfl
  | k + 1, h => by simp only [cnt]; rw [cnt_S S S' k fun j hj => h j (by omega), h k (by omega)]
theorem cnt_set (S S' : Nat → Bool) (i : Nat) (h1 : S i = false) (h2 : S' i = true) (h : ∀ j, j ≠ i → S' j = S j) : ∀ k, i < k → cnt S k = cnt S' k + 1
  | 0, hk => by omega
  | k + 1, hk => by
    simp only [cnt]
    by_cases hik : i = k
    · subst hik
      rw [cnt_S S S' i fun j hj => (h j (by omega)).symm]; simp [h1, h2]
    · rw [cnt_set S S' i h1 h2 h k (by omega), h k (by omega)]; omega
end
end Go.Proofs.YtfaljkenmbbbaaaDoor
/- A walk over symbolic memory: a region that draws its order, in which the loud operations wait one for the other. No program in sight. -/
namespace Go.Proofs.YtfaljkenmbbbaaaDoor
open Go.RowKit
set_option linter.unusedSimpArgs false
set_option linter.unusedVariables false
section
variable {P : Program} {B : List Hp} {l : List Oper} {L D pi : List Nat} {n0 : Option Nat} {z : List AV} {T0 : List AV} {Q : Post}
theorem set_getD {listed : Array Bool} {i : Nat} (hi : i < listed.size) (j : Nat) : (listed.setIfInBounds i true).getD j false = if j = i then true else listed.getD j false := by
  by_cases e : j = i
  · subst e; simp [hi]
  · rw [if_neg e, getD_set_ne false (Ne.symm e)]
theorem allBut_getD {n : Nat} {D : List Nat} {j : Nat} (h : j < n) : (allBut n D).getD j false = !D.contains j := by
  simp [allBut, h]
theorem Evl.of_ev {o : Oper} {T1 T2 : List AV} {H : List Hp} {e : AV} (h : Evl P o (ev T1) H e) (he : ∀ t ∈ looks l o, T2[t]? = T1[t]?) : Evl P o (ev T2) H e := fun V a w Kc Qc r hK =>
  h V a w Kc Qc ⟨r.hok, fun x hx => by
    have : ev T1 x = ev T2 x := ev_of fun t ht => (he t (looks_op (ht ▸ hx))).symm
    rw [this]; exact r.ops x hx, r.vlt, r.gw⟩ hK
theorem mix_key (ok : MixOk l pi L D n0) (hdst : ∀ (i : Nat) (o : Oper) (d : Nat), l[i]? = some o → o.dst = some d → d < T0.length)
    (hal : ∀ (i : Nat) (o : Oper), n0 = some i → l[i]? = some o → ∀ (T : List AV) (H : List Hp), Stp P o T H (fun T' H' => ∃ b, T' = putT T o.dst (.x (.pointer (some ⟨b, 0, none⟩))) ∧ H' = .box b z :: H))
    {k : Nat} (hk : cnt (fun j => (allBut l.length D).getD j false) l.length = k) (V O : Nat → Prop) (w0 : World) :
    ∀ (fuel : Nat) (listed : Array Bool) (a : Act) (w : World) (pd rest : List Nat) (es : Nat → AV) (T : List AV) (H eb : List Hp),
      listed.size = l.length → (∀ (j : Nat) (q : Oper), l[j]? = some q → listed.getD j false = true → ∀ e ∈ q.after, listed.getD e.on false = true) → cnt (fun j => listed.getD j false) l.length = fuel →
      DI P B l L pi T0 pd rest es T → dm P B l L rest T H (finM P B l D n0 z Q k) → (rest = [] ∨ ∃ i r, rest = i :: r ∧ i ∈ L) →
      (∀ j ∈ rest, listed.getD j false = false) → (∀ j ∈ D, listed.getD j false = false) → (∀ j ∈ pd, j ∈ L → listed.getD j false = true) →
      (∀ i, n0 = some i → (listed.getD i false = true → ∃ b, eb = [.box b z] ∧ es i = .x (.pointer (some ⟨b, 0, none⟩))) ∧ (listed.getD i false = false → eb = [])) → (n0 = none → eb = []) →
      Rel V O w0 (B ++ (eb ++ H)) (lisT l es T0 (fun j => listed.getD j false) l.length) a w → wpAny P .any l.toArray (lift V O w0 Q) fuel listed a w := by
  -- all but D have come up
  have atEnd : ∀ (fuel : Nat) (listed : Array Bool) (a : Act) (w : World) (pd rest : List Nat) (es : Nat → AV) (T : List AV) (H eb : List Hp),
      listed.size = l.length → cnt (fun j => listed.getD j false) l.length = fuel →
      DI P B l L pi T0 pd rest es T → dm P B l L rest T H (finM P B l D n0 z Q k) →
      (∀ j ∈ rest, listed.getD j false = false) → (∀ j ∈ D, listed.getD j false = false) →
      (∀ i, n0 = some i → (listed.getD i false = true → ∃ b, eb = [.box b z] ∧ es i = .x (.pointer (some ⟨b, 0, none⟩))) ∧ (listed.getD i false = false → eb = [])) → (n0 = none → eb = []) →
      Rel V O w0 (B ++ (eb ++ H)) (lisT l es T0 (fun j => listed.getD j false) l.length) a w → (∀ j, j < l.length → j ∉ D → listed.getD j false = true) → wpAny P .any l.toArray (lift V O w0 Q) fuel listed a w := by
    intro fuel listed a w pd rest es T H eb hsz hcnt hDI hd hru hDu hn1 hn2 hrel hall
    have hrest : rest = [] := by
      cases rest with
      | nil => rfl
      | cons i r =>
        have hip := ok.inpi i (by rw [hDI.split]; simp)
        have := hall i hip.1 hip.2.1
        rw [hru i (by simp)] at this; cases this
    subst hrest
    have hpi : pi = pd := by rw [hDI.split, List.append_nil]
    have hget : ∀ j, j < l.length → listed.getD j false = !D.contains j := fun j hj => by
      by_cases hjD : j ∈ D
      · rw [hDu j hjD]; simp [hjD]
      · rw [hall j hj hjD]; simp [hjD]
    have hlist : listed = allBut l.length D := by
      apply Array.ext
      · simp [allBut, hsz]
      · intro j h1 h2
        have e1 := hget j (by omega)
        have e2 := allBut_getD (D := D) (show j < l.length by omega)
        simp [Array.getD, h1] at e1
        simp [Array.getD, h2] at e2
        rw [e1, e2]
    have hfk : fuel = k := by rw [← hcnt, hlist, hk]
    subst hfk
    simp only [dm] at hd
    cases hn : n0 with
    | none =>
      have := hn2 hn
      subst this
      rw [hn] at hd
      simp only [finM] at hd
      rw [hlist]
      refine hd V O w0 a w ?_
      rw [List.nil_append] at hrel
      have e : lisT l es T0 (fun j => listed.getD j false) l.length = T := by
        rw [hDI.eq]
        refine lisT_S _ _ _ _ _ _ fun j hj => ?_
        rw [hget j hj]
        rcases ok.cover j hj with h | h | h
        · have := (ok.inpi j h).2.1
          rw [hpi] at h; simp [h, this]
        · have : j ∉ pd := fun hp => (ok.inpi j (hpi ▸ hp)).2.1 h
          simp [h, this]
        · rw [hn] at h; cases h
      rw [e] at hrel; exact hrel
    | some i =>
      obtain ⟨o, ho, -, -⟩ := ok.alloc i hn
      have hil := (List.getElem?_eq_some_iff.1 ho).1
      have hiD : i ∉ D := fun h => (ok.dlt i h).2 hn
      obtain ⟨b, rfl, hb⟩ := (hn1 i hn).1 (hall i hil hiD)
      rw [hn] at hd
      simp only [finM] at hd
      rw [hlist]
      refine hd b V O w0 a w ?_
      have hip : i ∉ pd := fun hp => (ok.inpi i (hpi ▸ hp)).2.2 hn
      have e : lisT l es T0 (fun j => listed.getD j false) l.length = putT T ((nthO l i).bind (·.dst)) (.x (.pointer (some ⟨b, 0, none⟩))) := by
        rw [nthO_eq, ho, hDI.eq, ← hb]
        refine ((lis_put ok.reg es T0 (fun j => pd.contains j) (fun j => pd.contains j || j == i) i o ho (by simpa using hip) (by simp) (fun j hj => by simp [hj])).trans ?_).symm
        refine lisT_S _ _ _ _ _ _ fun j hj => ?_
        rw [hget j hj]
        rcases ok.cover j hj with h | h | h
        · have := (ok.inpi j h).2.1
          rw [hpi] at h; simp [h, this]
        · have h1 : j ∉ pd := fun hp => (ok.inpi j (hpi ▸ hp)).2.1 h
          have h2 : j ≠ i := fun e => hiD (e ▸ h)
          simp [h, h1, h2]
        · rw [hn] at h; cases h; simp [hiD]
      rw [e] at hrel; exact hrel
  intro fuel
  induction fuel with
  | zero =>
    intro listed a w pd rest es T H eb hsz hcl hcnt hDI hd hhead hru hDu hLo hn1 hn2 hrel
    exact atEnd 0 listed a w pd rest es T H eb hsz hcnt hDI hd hru hDu hn1 hn2 hrel fun j hj _ => cnt_zero _ _ hcnt j hj
  | succ fuel ih =>
    intro listed a w pd rest es T H eb hsz hcl hcnt hDI hd hhead hru hDu hLo hn1 hn2 hrel
    by_cases hall : ∀ j, j < l.length → j ∉ D → listed.getD j false = true
    · exact atEnd (fuel + 1) listed a w pd rest es T H eb hsz hcnt hDI hd hru hDu hn1 hn2 hrel hall
    refine ⟨fun hnil => absurd (fun j hj _ => ready_nil ok.reg hsz hnil j hj) hall, fun i hi => ?_⟩
    obtain ⟨hi0, o, ho', haf⟩ := mem_ready.1 hi
    have ho : l[i]? = some o := by simpa using ho'
    have hil := (List.getElem?_eq_some_iff.1 ho).1
    have hiS : listed.getD i false = false := by
      have hi' : i < listed.size := by omega
      simp [Array.getD, hi'] at hi0 ⊢; exact hi0
    have haf' : ∀ e ∈ o.after, listed.getD e.on false = true := fun e he => haf e he (ok.reg.after i o ho e he).1
    have hiD : i ∉ D := fun h => hall fun j hj hjD => reach_S hcl l.length i j o ho haf' ((ok.dall i h j hj).resolve_left hjD)
    -- what is so behind this operation, whatever it is
    have hset := set_getD (listed := listed) (i := i) (by omega)
    have hcl' : ∀ (j : Nat) (q : Oper), l[j]? = some q → (listed.setIfInBounds i true).getD j false = true → ∀ e ∈ q.after, (listed.setIfInBounds i true).getD e.on false = true := by
      intro j q hj hs e he
      rw [hset] at hs ⊢
      split
      · rfl
      · split at hs
        · rename_i e1; subst e1; rw [ho] at hj; cases hj; exact haf' e he
        · exact hcl j q hj hs e he
    have hcnt' : cnt (fun j => (listed.setIfInBounds i true).getD j false) l.length = fuel := by
      have := cnt_set (fun j => listed.getD j false) (fun j => (listed.setIfInBounds i true).getD j false) i hiS (by rw [hset]; simp) (fun j hj => by rw [hset]; simp [hj]) l.length hil
      omega
    have hDu' : ∀ j ∈ D, (listed.setIfInBounds i true).getD j false = false := fun j hj => by
      rw [hset, if_neg (by rintro rfl; exact hiD hj)]; exact hDu j hj
    have hsz' : (listed.setIfInBounds i true).size = l.length := by simpa using hsz
    have hwant : ∀ {g : Option (Nat × Bool)}, o.guard = none → Region.wanted o (yielded l.toArray a.tmps) = true := fun hg => by simp [Region.wanted, hg]
    have hput : ∀ es' : Nat → AV, putT (lisT l es' T0 (fun j => listed.getD j false) l.length) o.dst (es' i) = lisT l es' T0 (fun j => (listed.setIfInBounds i true).getD j false) l.length := fun es' =>
      lis_put ok.reg es' T0 _ _ i o ho hiS (by rw [hset]; simp) (fun j hj => by rw [hset]; simp [hj])
    unfold wpOp
    simp only [ho']
    rcases ok.cover i hil with hip | h | hin
    case inr.inl => exact absurd h hiD
    case inr.inr =>
      -- the alloc
      obtain ⟨o', ho2, -, hg⟩ := ok.alloc i hin
      rw [ho] at ho2; cases ho2
      rw [if_pos (hwant (g := none) hg)]
      have heb := (hn1 i hin).2 hiS
      subst heb
      refine .inl (hal i o hin ho _ _ V O w0 a w _ _ hrel ?_)
      rintro T' H' a' w' ⟨b, rfl, rfl⟩ r'
      have hes : ∀ j, j ≠ i → upd es i (.x (.pointer (some ⟨b, 0, none⟩))) j = es j := fun j hj => by unfold upd; rw [if_neg hj]
      have hesi : upd es i (.x (.pointer (some ⟨b, 0, none⟩))) i = .x (.pointer (some ⟨b, 0, none⟩)) := by simp [upd]
      have hnp : ∀ j ∈ pi, j ≠ i := fun j hj e => (ok.inpi j hj).2.2 (e ▸ hin)
      refine ih (listed.setIfInBounds i true) a' w' pd rest (upd es i (.x (.pointer (some ⟨b, 0, none⟩)))) T H [.box b z] hsz' hcl' hcnt' (hDI.es fun j hj => hes j (hnp j (by rw [hDI.split]; simp [hj]))) hd hhead
        (fun j hj => by rw [hset, if_neg (hnp j (by rw [hDI.split]; simp [hj]))]; exact hru j hj) hDu' (fun j hj hL => by rw [hset]; split; rfl; exact hLo j hj hL)
        (fun i' hi' => ?_) (fun h => by rw [hin] at h; cases h) ?_
      · rw [hin] at hi'; cases hi'
        exact ⟨fun _ => ⟨b, rfl, hesi⟩, fun h => by rw [hset] at h; simp at h⟩
      · rw [← hput, hesi, lisT_congr l (upd es i (.x (.pointer (some ⟨b, 0, none⟩)))) es T0 _ _ fun j _ hj => hes j (fun e => by subst e; rw [hiS] at hj; cases hj)]
        exact r'.perm (by simpa using (List.perm_middle (l₁ := B) (l₂ := H) (a := Hp.box b z)).symm)
    case inl =>
      have hn0i : ∀ i', n0 = some i' → i' ≠ i := fun i' hi' e => (ok.inpi i hip).2.2 (e ▸ hi')
      rw [hDI.split] at hip
      rcases List.mem_append.1 hip with hpd | hre
      · -- a quiet one
        obtain ⟨m, hm⟩ := List.mem_iff_getElem?.1 hpd
        have hiL : i ∉ L := fun hL => by have := hLo i hpd hL; rw [hiS] at this; cases this
        have hmp : pi[m]? = some i := by rw [hDI.split, List.getElem?_append_left (List.getElem?_eq_some_iff.1 hm).1]; exact hm
        obtain ⟨o', ho2, hg, hpre, -⟩ := ok.ops m i hmp
        rw [ho] at ho2; cases ho2
        have htk : pi.take m = pd.take m := by rw [hDI.split, List.take_append_of_le_length (Nat.le_of_lt (List.getElem?_eq_some_iff.1 hm).1)]
        rw [htk] at hpre
        have hE := hDI.quiet m i o hm hiL ho (eb ++ H)
        have hnm : i ∉ pd.take m := fun h => by
          have hn := ok.nodup
          rw [hDI.split] at hn
          have hn := (List.nodup_append.1 hn).1
          obtain ⟨m2, h2⟩ := List.mem_iff_getElem?.1 h
          rw [List.getElem?_take] at h2
          split at h2
          · rename_i hlt
            have := (List.getElem?_inj (List.getElem?_eq_some_iff.1 h2).1 hn).1 (h2.trans hm.symm)
            omega
          · cases h2
        have hE2 : Evl P o (ev (lisT l es T0 (fun j => listed.getD j false) l.length)) (B ++ (eb ++ H)) (es i) := hE.of_ev (l := l) fun t ht =>
          lis_two ok.reg es T0 _ _ i o ho hiS (by simpa using hnm) haf' (fun e he => by simpa using hpre e he) (fun j q hj hs e he e' => by
            have := hcl j q hj hs e he
            rw [e', hiS] at this; cases this) (fun j q hj hs e he e' => by
            have hs' : j ∈ pd.take m := by simpa using hs
            obtain ⟨m2, h2⟩ := List.mem_iff_getElem?.1 hs'
            rw [List.getElem?_take] at h2
            split at h2
            · rename_i hlt
              have h2p : pi[m2]? = some j := by rw [hDI.split, List.getElem?_append_left (List.getElem?_eq_some_iff.1 h2).1]; exact h2
              obtain ⟨q', hq', -, hpq, -⟩ := ok.ops m2 j h2p
              rw [hj] at hq'; cases hq'
              have := hpq e he
              rw [e'] at this
              exact hnm (by rw [← htk]; exact (List.take_subset_take_left pi (Nat.le_of_lt hlt)) this)
            · cases h2) t ht
        rw [if_pos (hwant (g := none) hg)]
        refine .inl (hE2 V a w _ _ (hrel.oks o) fun v w' he hdv => ?_)
        refine ih (listed.setIfInBounds i true) _ w' pd rest es T H eb hsz' hcl' hcnt' hDI hd hhead (fun j hj => ?_) hDu' (fun j hj hL => by rw [hset]; split; rfl; exact hLo j hj hL) (fun i' hi' => ?_) hn2 ?_
        · rw [hset, if_neg, hru j hj]
          rintro rfl
          have hn := ok.nodup
          rw [hDI.split] at hn
          exact (List.nodup_append.1 hn).2.2 j hpd j hj rfl
        · rw [hset, if_neg (hn0i i' hi')]; exact hn1 i' hi'
        · rw [← hput]; exact (hrel.quiet he).put _ hdv
      · -- one still to come: the next loud one
        obtain ⟨h, r, rfl, hL⟩ := hhead.resolve_left (fun e => by subst e; cases hre)
        have hih : i = h := by
          rcases List.mem_cons.1 hre with e | hir
          · exact e
          · exfalso
            obtain ⟨m, hm⟩ := List.mem_iff_getElem?.1 hir
            have hmp : pi[pd.length + 1 + m]? = some i := by
              rw [hDI.split, List.getElem?_append_right (by omega), show pd.length + 1 + m - pd.length = m + 1 by omega]; exact hm
            obtain ⟨o', ho2, -, -, hq⟩ := ok.ops _ i hmp
            rw [ho] at ho2; cases ho2
            have hhin : h ∈ pi.take (pd.length + 1 + m) := by
              rw [hDI.split, List.take_append, List.take_of_length_le (by omega), show pd.length + 1 + m - pd.length = m + 1 by omega]
              simp
            have := reach_S hcl l.length i h o ho haf' (hq h hhin hL)
            rw [hru h (by simp)] at this; cases this
        subst hih
        obtain ⟨o', ho2, hd2⟩ := hd
        rw [nthO_eq, ho] at ho2; cases ho2
        have hLc : L.contains i = true := by simpa using hL
        rcases hd2 with ⟨hLf, -⟩ | ⟨-, hst⟩
        · rw [hLc] at hLf; cases hLf
        have hmp : pi[pd.length]? = some i := by rw [hDI.split, List.getElem?_append_right (Nat.le_refl _)]; simp
        obtain ⟨o', ho2, hg, hpre, -⟩ := ok.ops _ i hmp
        rw [ho] at ho2; cases ho2
        have htk : pi.take pd.length = pd := by rw [hDI.split, List.take_left' rfl]
        rw [htk] at hpre
        have hnp : i ∉ pd := fun h => by
          have hn := ok.nodup
          rw [hDI.split] at hn
          exact (List.nodup_append.1 hn).2.2 i h i (by simp) rfl
        rw [if_pos (hwant (g := none) hg)]
        rw [← List.append_assoc] at hrel
        refine .inl (stp_masked hst (by rw [lisT_len, hDI.eq, lisT_len]) (fun t ht => ?_) (fun d hd => by rw [hDI.eq, lisT_len]; exact hdst i o d ho hd) hrel _ _ fun e H' v w' hm hr' => ?_)
        · rw [hDI.eq]
          exact lis_two ok.reg es T0 _ _ i o ho hiS (by simpa using hnp) haf' (fun e he => by simpa using hpre e he) (fun j q hj hs e he e' => by
            have := hcl j q hj hs e he
            rw [e', hiS] at this; cases this) (fun j q hj hs e he e' => by
            have hs' : j ∈ pd := by simpa using hs
            obtain ⟨m2, h2⟩ := List.mem_iff_getElem?.1 hs'
            have h2p : pi[m2]? = some j := by rw [hDI.split, List.getElem?_append_left (List.getElem?_eq_some_iff.1 h2).1]; exact h2
            obtain ⟨q', hq', -, hpq, -⟩ := ok.ops m2 j h2p
            rw [hj] at hq'; cases hq'
            have := hpq e he
            rw [e', hDI.split, List.take_append_of_le_length (Nat.le_of_lt (List.getElem?_eq_some_iff.1 h2).1)] at this
            exact hnp (List.mem_of_mem_take this)) t (by simpa using ht)
        · have hp1 := hDI.push ok ho e (fun hn => absurd hL hn)
          obtain ⟨q, rest', es', T', g1, g2, g3, g4, g5, g6⟩ := absorb ok r (pd ++ [i]) (upd es i e) (putT T o.dst e) H' hp1 hm
          have hnd := ok.nodup
          rw [hDI.split] at hnd
          have hnr := List.nodup_append.1 hnd
          have hri : i ∉ r := (List.nodup_cons.1 hnr.2.1).1
          have hes : ∀ j, j ∉ q → j ≠ i → es' j = es j := fun j hj hji => by rw [g5 j hj]; unfold upd; rw [if_neg hji]
          have hesi : es' i = e := by rw [g5 i (fun h => hri (by rw [g1]; simp [h]))]; simp [upd]
          have hrr : ∀ j ∈ r, (listed.setIfInBounds i true).getD j false = false := fun j hj => by
            rw [hset, if_neg (by rintro rfl; exact hri hj)]; exact hru j (by simp [hj])
          have hqp : ∀ j ∈ q, j ∈ pi := fun j hj => by rw [hDI.split, g1]; simp [hj]
          refine ih (listed.setIfInBounds i true) _ w' (pd ++ [i] ++ q) rest' es' T' H' eb hsz' hcl' hcnt' g2 g3 g4 (fun j hj => hrr j (by rw [g1]; simp [hj])) hDu' (fun j hj hjL => ?_) (fun i' hi' => ?_) hn2 ?_
          · rw [hset]
            split
            · rfl
            · rename_i hji
              rcases List.mem_append.1 hj with hj | hj
              · rcases List.mem_append.1 hj with hj | hj
                · exact hLo j hj hjL
                · simp at hj; exact absurd hj hji
              · exact absurd hjL (g6 j hj)
          · have h1 := hn0i i' hi'
            have h2 : i' ∉ q := fun h => (ok.inpi i' (hqp i' h)).2.2 hi'
            rw [hset, if_neg h1, hes i' h2 h1]; exact hn1 i' hi'
          · rw [← List.append_assoc, ← hput, hesi, lisT_congr l es' es T0 _ _ fun j _ hj => ?_]
            · exact hr'
            · have h1 : j ≠ i := by rintro rfl; rw [hiS] at hj; cases hj
              refine hes j (fun h => ?_) h1
              rw [hru j (by rw [g1]; simp [h])] at hj; cases hj
/-- A region that draws its order, in one order: pi; L: those that turn memory, one after the other; n0: the place of a fresh variable; D: what comes last. -/
theorem awp_mix {id : Nat} {T : List AV} {H R : List Hp} (hm : P.follows .mixedOrders = true) (pi L D : List Nat) (n0 : Option Nat) (z : List AV) (k : Nat) (hp : H.Perm (B ++ R)) (hok : mixOk l pi L D n0 = true) (hd : (l.all fun o => match o.dst with | some d => decide (d < T.length) | none => true) = true)
    (hal : ∀ (i : Nat) (o : Oper), n0 = some i → nthO l i = some o → ∀ (T : List AV) (H : List Hp), Stp P o T H (fun T' H' => ∃ b, T' = putT T o.dst (.x (.pointer (some ⟨b, 0, none⟩))) ∧ H' = .box b z :: H))
    (hk : cnt (fun j => (allBut l.length D).getD j false) l.length = k) (h : dm P B l L pi T R (finM P B l D n0 z Q k)) : awp P (.region id l.toArray true) Q T H := by
  have ok := mixOk_of hok
  refine awp_drawnA hm fun V O w0 a w r => ?_
  obtain ⟨q, rest', es', T', g1, g2, g3, g4, g5, g6⟩ := absorb ok pi [] (fun _ => .top) T R ⟨rfl, by
    rw [lisT_S l _ T _ (fun _ => false) _ fun j _ => by simp]
    have : ∀ k, lisT l (fun _ => .top) T (fun _ => false) k = T := fun k => by
      induction k with
      | zero => rfl
      | succ k ih => simp [lisT, ih]
    rw [this], fun k i o hk => by simp at hk⟩ h
  have hgd : ∀ j, (Array.replicate l.length false).getD j false = false := fun j => by
    by_cases hj : j < l.length <;> simp [hj]
  refine mix_key ok (fun i o d ho hod => ?_) (fun i o hi ho => hal i o hi (by rw [nthO_eq]; exact ho)) hk V O w0 l.length _ a w q rest' es' T' R [] (by simp) (fun j q hj hs => by rw [hgd] at hs; cases hs) ?_ (by simpa using g2) g3 g4 (fun j _ => hgd j) (fun j _ => hgd j) (fun j hj hL => absurd hL (g6 j hj)) (fun i _ => ⟨fun h => (by rw [hgd] at h; cases h), fun _ => rfl⟩) (fun _ => rfl) ?_
  · rw [List.all_eq_true] at hd
    have := hd o (List.mem_of_getElem? ho)
    rw [hod] at this
    simpa using this
  · rw [cnt_S _ (fun _ => false) _ fun j _ => hgd j]
    have : ∀ k, cnt (fun _ => false) k = k := fun k => by
      induction k with
      | zero => rfl
      | succ k ih => simp [cnt, ih]
    exact this _
  · rw [lisT_S l es' T _ (fun _ => false) _ fun j _ => hgd j]
    have : ∀ k, lisT l es' T (fun _ => false) k = T := fun k => by
      induction k with
      | zero => rfl
      | succ k ih => simp [lisT, ih]
    rw [this]
    simpa using r.perm hp
end
end Go.Proofs.YtfaljkenmbbbaaaDoor
/- A walk over symbolic memory: new rows that nobody writes later, quiet. No program in sight. -/
namespace Go.Proofs.YtfaljkenmbbbaaaDoor
open Go.RowKit
set_option linter.unusedSimpArgs false
set_option linter.unusedVariables false
section
variable {P : Program} {H : List Hp} {o : Oper} {ρ : Operand → AV}
/-- A row out of its elements, that is only read from then on. -/
theorem Evl_rowsq (t e : TypeId) (len : Nat) (parts : Array (Nat × Operand)) (z : Value) (size bytes : Nat) (cells : List AV) (ho : o.op = .buildSlice t len parts) (hE : ElemAt P t e z size bytes)
    (hone : (parts.toList.all fun p => (ρ p.2).cells.all AV.one) = true) (hz1 : z.cells.toList.all (·.oneCell') = true) (hlen : len * size ≤ 16777216)
    (hb : bldA (fun i => some (i * size, size)) ((List.replicate len (z.cells.toList.map .x)).flatten) (parts.toList.map fun p => (p.1, ρ p.2)) = some cells) : Evl P o ρ H (.sq len cells) := by
  intro V a w Kc Q r hKc
  obtain ⟨i, hi, hz, hsize, hby⟩ := info_parts hE.info
  have hpos := hE.pos
  have hzs := hE.zs
  -- the zeros
  have hz2 : z.cells.toList.length = size := by rw [Array.length_toList]; exact hzs
  have hzeros : ((Array.range (len * size)).map (z.cells[· % z.cells.size]!)).toList = (List.replicate len z.cells.toList).flatten := by
    apply List.ext_getElem?
    intro j
    simp only [Array.toList_map, Array.toList_range, List.getElem?_map]
    by_cases hj : j < len * size
    · rw [List.getElem?_range hj]
      have hmod : j % size < size := Nat.mod_lt _ hpos
      have key : ∀ (n : Nat) (j : Nat), j < n * size → ((List.replicate n z.cells.toList).flatten)[j]? = z.cells.toList[j % size]? := by
        intro n
        induction n with
        | zero => intro j h; simp at h
        | succ n ih =>
          intro j h
          rw [List.replicate_succ, List.flatten_cons]
          by_cases h1 : j < size
          · rw [List.getElem?_append_left (by simp; omega), Nat.mod_eq_of_lt h1]
          · rw [List.getElem?_append_right (by simp; omega), Array.length_toList, hzs, ih (j - size) (by rw [Nat.succ_mul] at h; omega), Nat.mod_eq_sub_mod (Nat.le_of_not_lt h1)]
      rw [key len j hj]
      simp [hzs, getElem!_pos, hmod]
    · rw [List.getElem?_eq_none (by simpa using hj), List.getElem?_eq_none (by simp [hzs]; omega)]; rfl
  obtain ⟨vr, hf, hd⟩ := bldA_den (F := FB V H) (w := w) _ _ _ ((Array.range (len * size)).map (z.cells[· % z.cells.size]!)) cells hb (by
    rw [hzeros]
    have : (List.replicate len (z.cells.toList.map AV.x)).flatten = ((List.replicate len z.cells.toList).flatten).map AV.x := by
      rw [List.map_flatten, List.map_replicate]
    rw [this]; exact DenL.exact) (parts_den parts (fun p hp => by simp [ho, Op.operands]; exact ⟨p.1, by simpa using hp⟩) r (fun p hp => List.all_eq_true.1 hone p (by simpa using hp)))
  have hrun : (execOp a.eval o).run P w = .ok (.value (.slice (some ⟨w.heap.size, 0, none⟩) len len)) (w.alloc (.cells vr e)) := by
    have h24 : ¬ (len * i.size > 16777216) := by rw [hsize]; omega
    by_cases h0 : len * i.size = 0
    · have hf' : Instr.fill (fun j => some (j * i.size, i.size)) #[] (parts.map fun (i, x) => (i, a.eval x)).toList = some vr := by
        rw [hsize] at h0 ⊢; rw [← hf, h0]; simp [Array.range]
      have hl0 : len = 0 := by
        rw [hsize] at h0
        rcases Nat.mul_eq_zero.1 h0 with h | h
        · exact h
        · omega
      subst hl0
      have hf2 : Instr.fill (fun j => some (j * i.size, i.size)) #[] (List.map (fun x => (x.1, a.eval x.2)) parts.toList) = some vr := by rw [← hf', Array.toList_map]
      simp [execOp, ho, Instr.buildSlice, run_underlying hE.under, sizeOf, typeInfo, hi, newRow, show Array.range 0 = #[] from rfl, hf2]
    · have hf' : Instr.fill (fun j => some (j * i.size, i.size)) (Array.map (fun x => z.cells[x % z.cells.size]!) (Array.range (len * i.size))) (parts.map fun (i, x) => (i, a.eval x)).toList = some vr := by
        rw [hsize]; exact hf
      simp [execOp, ho, Instr.buildSlice, run_underlying hE.under, sizeOf, typeInfo, hi, h0, h24, zeroValue, hz, newRow] at hf' ⊢
      simp [hf']
  have hvlen : vr.size = len * size := by
    have h1 := hd.len
    have : ∀ (ps : List (Nat × AV)) (cs r : List AV), bldA (fun i => some (i * size, size)) cs ps = some r → r.length = cs.length := by
      intro ps
      induction ps with
      | nil => intro cs r h; simp only [bldA] at h; cases h; rfl
      | cons p ps ih =>
        intro cs r h
        obtain ⟨i, v⟩ := p
        simp only [bldA] at h
        split at h
        · cases h
        · rename_i hn
          rw [ih _ _ h]
          simp [spl]; omega
    have h2 := this _ _ _ hb
    rw [Array.length_toList] at h1
    rw [h1, h2]; simp [hzs]
  unfold Oper.wp
  rw [hrun]
  have hE' : Ext w (w.alloc (.cells vr e)) := Ext.al _ _
  have hones : cells.all AV.one = true := by
    have : ∀ (ps : List (Nat × AV)) (cs r : List AV), (ps.all fun p => p.2.cells.all AV.one) = true → cs.all AV.one = true → bldA (fun i => some (i * size, size)) cs ps = some r → r.all AV.one = true := by
      intro ps
      induction ps with
      | nil => intro cs r _ hc h; simp only [bldA] at h; cases h; exact hc
      | cons p ps ih =>
        intro cs r hp hc h
        obtain ⟨i, v⟩ := p
        simp only [bldA] at h
        simp only [List.all_cons, Bool.and_eq_true] at hp
        split at h
        · cases h
        · refine ih _ _ hp.2 ?_ h
          simp only [spl, List.all_append, Bool.and_eq_true]
          exact ⟨⟨List.all_eq_true.2 fun x hx => List.all_eq_true.1 hc x (List.mem_of_mem_take hx), hp.1⟩, List.all_eq_true.2 fun x hx => List.all_eq_true.1 hc x (List.mem_of_mem_drop hx)⟩
    refine this _ _ _ ?_ ?_ hb
    · rw [List.all_map]; exact hone
    · rw [List.all_eq_true]
      intro x hx
      obtain ⟨l, hl, hx⟩ := List.mem_flatten.1 hx
      rw [List.eq_of_mem_replicate hl] at hx
      obtain ⟨v, hv, rfl⟩ := List.mem_map.1 hx
      exact List.all_eq_true.1 hz1 v hv
  have hF : ∀ k, FB V H k → k < w.heap.size := fun k hk => by
    rcases hk with hk | ⟨x, hx, e⟩
    · exact r.vlt k hk
    · exact (r.hok.lt x hx k e).1
  refine hKc _ _ hE' ?_
  rw [Den]
  refine ⟨_, _, vr.toList, rfl, Nat.le_refl _, by unfold maxLen; have : len ≤ len * size := Nat.le_mul_of_pos_right _ hpos; omega, fun h => (by cases h), .inr ⟨_, _, rfl, fun hk => by have := hF _ hk; omega, fun j u hj => ⟨?_, hd.one hones u (List.mem_of_getElem? hj)⟩⟩, DenL.conv (fun k hk => .inl hk) (fun k hk _ => hE'.block k hk) _ _ hd⟩
  rw [Nat.zero_add, World.cell?_alloc_new]; simpa using hj
/-- '[]byte(s)', that is only read from then on. -/
theorem Evl_bytes (src dst e : TypeId) (x : Operand) (l : List UInt8) (ho : o.op = .convert src dst x) (hs : P.underlying src = some .string) (ht : P.underlying dst = some (.slice e)) (he : P.elem dst = e) (hu : P.underlying e = some (.int .u8)) (hx : ρ x = .x (.string (bs l))) (hl : l.length ≤ 1000000) : Evl P o ρ H (.sq l.length (u8a l)) := by
  intro V a w Kc Q r hKc
  have hrun := conv_string_bytes (P := P) w src dst e (bs l) hs (by rw [ht, he]) he hu
  have h1 := grownCap_ge w (bs l).size 0 e
  have h2 := grownCap_le_maxLen w (bs l).size 0 e (by rw [bs_size]; unfold maxLen; omega)
  rw [bs_size] at h1 h2 hrun
  have hsl := bs_conv w 0 w.heap.size l.length e (bs l) l rfl (by simp) (by simp) (by simpa using hl) (Nat.zero_le _)
  obtain ⟨ad, cap, e1, _, _, _, _, hc⟩ := hsl
  simp only [Value.slice.injEq] at e1
  obtain ⟨rfl, -, -⟩ := e1
  have hE : Ext w (w.ext #[strObj w e (bs l)] (w.drawn + 1)) := Ext.ext _ _ _
  have hF : ∀ k, FB V H k → k < w.heap.size := fun k hk => by
    rcases hk with hk | ⟨x, hx, e⟩
    · exact r.vlt k hk
    · exact (r.hok.lt x hx k e).1
  unfold Oper.wp execOp
  simp only [ho, r.evx (x := x) (by simp [ho, Op.operands]) hx, hrun, Sem.run_bind, Sem.run_pure, Result.andThen_ok, Oper.upon]
  refine hKc _ _ hE ?_
  rw [Den]
  refine ⟨_, _, u8s l, rfl, h1, h2, fun h => (by cases h), .inr ⟨_, _, rfl, fun hk => by have := hF _ hk; omega, fun j u hj => ⟨?_, u8s_one l u (List.mem_of_getElem? hj)⟩⟩, DenL.exact⟩
  obtain ⟨x, hx, hu⟩ := hc j u hj
  cases hx
  rwa [add_none] at hu
theorem dm_end_some {P : Program} {B : List Hp} {l : List Oper} {L D : List Nat} {i : Nat} {z : List AV} {Q : Post} {k : Nat} {T : List AV} {H : List Hp} (h : ∀ b, awpA P l.toArray Q k (allBut l.length D) (putT T ((nthO l i).bind (·.dst)) (.x (.pointer (some ⟨b, 0, none⟩)))) (B ++ (.box b z :: H))) : dm P B l L [] T H (finM P B l D (some i) z Q k) := h
theorem dm_end_none {P : Program} {B : List Hp} {l : List Oper} {L D : List Nat} {z : List AV} {Q : Post} {k : Nat} {T : List AV} {H : List Hp} (h : awpA P l.toArray Q k (allBut l.length D) T (B ++ H)) : dm P B l L [] T H (finM P B l D none z Q k) := h
/-- The fresh variable of such a region. -/
theorem mix_alloc {l : List Oper} {n : Nat} {t : TypeId} {o' : Oper} {d : Nat} (ho' : nthO l n = some o') (hop : o'.op = .alloc t) (hd : o'.dst = some d) {zv : Value} (hz : (P.info? t).bind (·.zero) = some zv) (h1 : zv.cells.toList.all (·.oneCell') = true) {z : List AV} (hzz : zv.cells.toList.map AV.x = z) :
    ∀ (i : Nat) (o : Oper), some n = some i → nthO l i = some o → ∀ (T : List AV) (H : List Hp), Stp P o T H (fun T' H' => ∃ b, T' = putT T o.dst (.x (.pointer (some ⟨b, 0, none⟩))) ∧ H' = .box b z :: H) := by
  intro i o hi ho T H
  cases hi
  rw [ho'] at ho; cases ho
  subst hzz
  exact Stp_alloc t zv hop hz h1 fun b => ⟨b, rfl, rfl⟩
end
end Go.Proofs.YtfaljkenmbbbaaaDoor
/- A walk over symbolic memory: rows given element by element. No program in sight. -/
namespace Go.Proofs.YtfaljkenmbbbaaaDoor
open Go.RowKit
set_option linter.unusedSimpArgs false
set_option linter.unusedVariables false
section
variable {P : Program} {H : List Hp} {o : Oper} {ρ : Operand → AV} {T : List AV} {K : List AV → List Hp → Prop}
theorem bldA_seq : ∀ (l : List (Nat × AV)) (done zs : List AV), l.map (·.1) = List.range' done.length l.length → zs.length = l.length → (l.all fun p => p.2.one) = true → bldA (fun i => some (i * 1, 1)) (done ++ zs) l = some (done ++ l.map (·.2))
  | [], done, zs, _, hz, _ => by
    have : zs = [] := List.eq_nil_of_length_eq_zero (by simpa using hz)
    subst this; rfl
  | (i, v) :: l, done, zs, hi, hz, h1 => by
    simp only [List.map_cons, List.length_cons, List.range'_succ, List.cons.injEq] at hi
    obtain ⟨rfl, hi⟩ := hi
    simp only [List.all_cons, Bool.and_eq_true] at h1
    cases zs with
    | nil => simp at hz
    | cons z zs =>
      have hc := one_cells' h1.1
      rw [bldA]
      simp only [hc, List.length_cons, List.length_nil, Nat.mul_one]
      rw [if_neg (by simp), spl_one _ _ _ (by simp)]
      have : (done ++ z :: zs).set done.length v = (done ++ [v]) ++ zs := by
        rw [List.set_append_right _ _ (Nat.le_refl _)]; simp
      rw [this]
      have := bldA_seq l (done ++ [v]) zs (by rw [hi]; simp) (by simpa using hz) h1.2
      simp only [Nat.mul_one] at this ⊢
      rw [this]; simp
theorem bldA_all {len : Nat} {z : Value} {parts : List (Nat × Operand)} (hz : z.cells.toList.length = 1) (hi : parts.map (·.1) = List.range len) (h1 : (parts.all fun p => (ρ p.2).one) = true) : bldA (fun i => some (i * 1, 1)) ((List.replicate len (z.cells.toList.map .x)).flatten) (parts.map fun p => (p.1, ρ p.2)) = some (parts.map fun p => ρ p.2) := by
  have hlen : parts.length = len := by have := congrArg List.length hi; simpa using this
  have := bldA_seq (parts.map fun p => (p.1, ρ p.2)) [] ((List.replicate len (z.cells.toList.map .x)).flatten) (by
    rw [List.map_map]
    rw [List.length_map, hlen, List.length_nil, ← List.range_eq_range']
    exact hi) (by
    rw [List.length_map, hlen]
    clear hi h1 hlen
    induction len with
    | zero => rfl
    | succ n ih => rw [List.replicate_succ, List.flatten_cons, List.length_append, ih, List.length_map, hz]; omega) (by rw [List.all_map]; exact h1)
  rw [List.nil_append] at this
  rw [this, List.map_map]; rfl
theorem one_all {parts : List (Nat × Operand)} (h1 : (parts.all fun p => (ρ p.2).one) = true) : (parts.all fun p => (ρ p.2).cells.all AV.one) = true := by
  rw [List.all_eq_true] at h1 ⊢
  intro p hp
  have := h1 p hp
  rw [one_cells' this]; simp [this]
/-- Each element given, in order, one cell each: only read from then on. -/
theorem Evl_rowall (t e : TypeId) (len : Nat) (parts : Array (Nat × Operand)) (z : Value) (bytes : Nat) (ho : o.op = .buildSlice t len parts) (hE : ElemAt P t e z 1 bytes)
    (hi : parts.toList.map (·.1) = List.range len) (h1 : (parts.toList.all fun p => (ρ p.2).one) = true) (hz1 : z.cells.toList.all (·.oneCell') = true) (hz : z.cells.toList.length = 1) (hlen : len ≤ 16777216) : Evl P o ρ H (.sq len (parts.toList.map fun p => ρ p.2)) :=
  Evl_rowsq t e len parts z 1 bytes _ ho hE (one_all h1) hz1 (by omega) (bldA_all hz hi h1)
/-- The same, the caller's own. -/
theorem Stp_rowall (t e : TypeId) (len : Nat) (parts : Array (Nat × Operand)) (z : Value) (bytes : Nat) (ho : o.op = .buildSlice t len parts) (hE : ElemAt P t e z 1 bytes)
    (hi : parts.toList.map (·.1) = List.range len) (h1 : (parts.toList.all fun p => (ev T p.2).one) = true) (hz1 : z.cells.toList.all (·.oneCell') = true) (hz : z.cells.toList.length = 1) (hlen : len ≤ 16777216)
    (hK : ∀ b, K (putT T o.dst (.x (.slice (some ⟨b, 0, none⟩) len len))) (.row (some ⟨b, 0, none⟩) len len e 1 (parts.toList.map fun p => ev T p.2) :: H)) : Stp P o T H K :=
  Stp_buildSlice t e len parts z 1 bytes _ ho hE (one_all h1) hz1 (by omega) (bldA_all hz hi h1) hK
end
end Go.Proofs.YtfaljkenmbbbaaaDoor
/- A walk over symbolic memory: the end of a region walked in one order. No program in sight. -/
namespace Go.Proofs.YtfaljkenmbbbaaaDoor
open Go.RowKit
set_option linter.unusedSimpArgs false
set_option linter.unusedVariables false
theorem dm_end_alloc {P : Program} {B : List Hp} {l : List Oper} {L D : List Nat} {i d : Nat} {z : List AV} {Q : Post} {k : Nat} {T : List AV} {H : List Hp} (hd : (nthO l i).bind (·.dst) = some d) (h : ∀ b, awpA P l.toArray Q k (allBut l.length D) (T.set d (.x (.pointer (some ⟨b, 0, none⟩)))) (B ++ (.box b z :: H))) : dm P B l L [] T H (finM P B l D (some i) z Q k) :=
  dm_end_some fun b => by rw [hd]; exact h b
end Go.Proofs.YtfaljkenmbbbaaaDoor
/- A walk over symbolic memory: a string's bytes appended to a row of bytes. No program in sight. -/
namespace Go.Proofs.YtfaljkenmbbbaaaDoor
open Go.RowKit Go.Lib
set_option linter.unusedSimpArgs false
set_option linter.unusedVariables false
section
variable {P : Program} {o : Oper} {H : List Hp} {T : List AV} {K : List AV → List Hp → Prop}
theorem strCells_u8s (l : List UInt8) : strCells (bs l) = u8s l := by simp [strCells, u8s, bs]
theorem append_where_str (w : World) (t u ty e : TypeId) (hE : ElemAt P t e (.int .u8 0) 1 1) (hu : P.underlying u = some .string) (ad : Option Addr) (n cap0 : Nat) (xs : List Value) (hown : w.ownsRow 0 e 1 (.slice ad n cap0) n xs) (s : ByteArray) (hf : n + s.size ≤ 1000000) :
    ∃ ad' cap' w', (Builtin.append_ #[t, u] ty #[.slice ad n cap0, .string s]).run P w = .ok (.slice ad' (n + s.size) cap') w' ∧ w'.ownsRow 0 e 1 (.slice ad' (n + s.size) cap') (n + s.size) (xs ++ strCells s) ∧ w.grownBy w' (Value.slice ad n cap0).ownBlock ∧ ∀ x, ad' = some x → ad = some x ∨ x.block = w.heap.size := by
  obtain ⟨i, hi, hz, hsize, hby⟩ := info_parts hE.info
  obtain ⟨v', w', hrun, g1, g2, g3⟩ := run_append_own_string (P := P) (w := w) 0 t u ty e i hE.under hu hi hz hsize hby (.slice ad n cap0) n xs hown s (by unfold maxLen; omega) (by omega) (Nat.zero_le _)
  obtain ⟨ad', cap', rfl, _⟩ := (Sl.own g1).shape
  refine ⟨ad', cap', w', hrun, g1, g2, fun x hx => ?_⟩
  subst hx
  have hxl : xs.length = n := by simpa using hown.1
  rcases hown.2 with ⟨e1, rfl⟩ | ⟨g, cap1, cur, e1, hbg, hg, hnc, hcm, hcs, htake⟩
  · cases e1
    by_cases hm : s.size = 0
    · have := g3.2 ⟨rfl, hm⟩; cases this
    · have hr := run_append_nil_string (P := P) w t u ty e i (.int .u8 0) hE.under hu hi hz s (by omega) (by omega) (by rw [hby]; omega)
      simp only [Nat.zero_add] at hrun
      rw [hr] at hrun
      simp only [Result.ok.injEq, Value.slice.injEq, Option.some.injEq] at hrun
      exact .inr (by rw [← hrun.1.1])
  · simp only [Value.slice.injEq] at e1
    obtain ⟨rfl, -, rfl⟩ := e1
    by_cases hroom : n + s.size ≤ cap0
    · have hcs' : cur.size = cap0 := by simpa using hcs
      have hr := run_append_room_string (P := P) w t u ty e i hE.under hu hi hsize g n cap0 cur hg s hroom (by omega)
      rw [hr] at hrun
      simp only [Result.ok.injEq, Value.slice.injEq, Option.some.injEq] at hrun
      exact .inl (by rw [← hrun.1.1])
    · have hr := run_append_grow_string (P := P) w t u ty e i (.int .u8 0) hE.under hu hi hz ⟨g, 0, none⟩ n cap0 xs (by rw [hsize]; simpa using hxl) (hown.cells (g := g) rfl) s (by omega) (by omega) (by rw [hby]; exact growslice_fits (by omega) (by omega))
      rw [hr] at hrun
      simp only [Result.ok.injEq, Value.slice.injEq, Option.some.injEq] at hrun
      exact .inr (by rw [← hrun.1.1])
/-- 'append(b, s...)', b a row of bytes of the call's own, s a string. -/
theorem Stp_append_str (p : Nat) (s x : Operand) (t u e : TypeId) (ad : Option Addr) (n cap : Nat) (cells : List AV) (l : List UInt8) (ho : o.op = .call { callee := .builtin .append, args := #[s, x], argTypes := #[t, u] }) (hs : ev T s = .x (.slice ad n cap)) (hp : H[p]? = some (.row ad n cap e 1 cells))
    (hx : ev T x = .x (.string (bs l))) (hE : ElemAt P t e (.int .u8 0) 1 1) (hu : P.underlying u = some .string) (hf : n + l.length ≤ 1000000)
    (hK : ∀ ad' cap', K (putT T o.dst (.x (.slice ad' (n + l.length) cap'))) (H.set p (.row ad' (n + l.length) cap' e 1 (cells ++ u8a l)))) : Stp P o T H K := by
  intro V O w0 a w Kc Q r hKc
  obtain ⟨vals, hd, hown, h1⟩ := r.hp p _ hp
  obtain ⟨ad', cap', w', hrun, g1, g2, g3⟩ := append_where_str (P := P) w t u o.type e hE hu ad n cap vals hown (bs l) (by rw [bs_size]; exact hf)
  rw [bs_size] at hrun g1
  rw [strCells_u8s] at g1
  unfold Oper.wp execOp
  simp only [ho, resolve, invoke, builtin, Sem.run_bind, Sem.run_pure, Result.andThen_ok, List.map_toArray, List.map_cons, List.map_nil, r.evx hs, r.evx hx, hrun, Oper.upon]
  have hob : (Value.slice ad n cap).ownBlock = ad.map (·.block) := by cases ad <;> rfl
  have hw : ∀ k, k < w.heap.size → (Hp.row ad n cap e 1 cells).blk ≠ some k → w'.heap[k]? = w.heap[k]? := fun k hk hn => g2.block k hk fun e => hn (by rw [hob] at e; exact e.symm)
  have hlt : ∀ k, (Hp.row ad' (n + l.length) cap' e 1 (cells ++ u8a l)).blk = some k → k < w'.heap.size ∧ ((Hp.row ad n cap e 1 cells).blk = some k ∨ w.heap.size ≤ k) := by
    intro k hk
    refine ⟨(g1.lt k (by simp only [Hp.blk] at hk; cases ad' with | none => simp at hk | some y => simpa [Value.ownBlock] using hk)).2, ?_⟩
    cases ad' with
    | none => simp [Hp.blk] at hk
    | some y =>
      simp [Hp.blk] at hk
      subst hk
      rcases g3 y rfl with rfl | e
      · exact .inl rfl
      · exact .inr (by omega)
  refine hKc _ _ _ _ (hK ad' cap') (Rel.put (Rel.turnAt (y := .row ad' (n + l.length) cap' e 1 (cells ++ u8a l)) r p hp g2.os g2.tape g2.output g2.size hw hlt ?_) _ (by rw [Den]))
  have hF : ∀ k, FB V (H.set p (.row ad' (n + l.length) cap' e 1 (cells ++ u8a l))) k → FB V H k ∨ w.heap.size ≤ k := by
    intro k hk
    rcases hk with hk | ⟨y, hy, e⟩
    · exact .inl (.inl hk)
    · rcases List.mem_or_eq_of_mem_set hy with hy | rfl
      · exact .inl (.inr ⟨y, hy, e⟩)
      · rcases (hlt k e).2 with h | h
        · exact .inl (.inr ⟨_, List.mem_of_getElem? hp, h⟩)
        · exact .inr h
  have hw' : ∀ k, k < w.heap.size → ¬ FB V H k → w'.heap[k]? = w.heap[k]? := fun k hk hn => hw k hk fun e => hn (.inr ⟨_, List.mem_of_getElem? hp, e⟩)
  exact ⟨vals ++ u8s l, (DenL.conv hF hw' _ _ hd).app DenL.exact, g1, fun u hu => by
    rcases List.mem_append.1 hu with h | h
    · exact h1 u h
    · exact u8s_one l u h⟩
end
end Go.Proofs.YtfaljkenmbbbaaaDoor
/- A walk over symbolic memory: in a region that draws its order, loads out of memory that is not the call's own may be taken first, whatever writes own memory. No program in sight. -/
namespace Go.Proofs.YtfaljkenmbbbaaaDoor
open Go.RowKit
set_option linter.unusedSimpArgs false
set_option linter.unusedVariables false
section
variable {P : Program} {V O : Nat → Prop} {w0 w w' : World} {B H H' R : List Hp} {T T' : List AV} {a a' : Act} {o : Oper} {ops : Array Oper} {Q : Post} {listed : Array Bool} {fuel : Nat}
/-- All that is not in R is as it was in wr. -/
def SameF (wr : World) (R : List Hp) (w : World) : Prop := ∀ k, k < wr.heap.size → ¬ blks R k → w.heap[k]? = wr.heap[k]?
/-- The rest of a region that draws its order; nothing has been turned yet. -/
def awpF (P : Program) (ops : Array Oper) (Q : Post) (fuel : Nat) (listed : Array Bool) (T : List AV) (H : List Hp) : Prop :=
  ∀ V O w0 a w, Rel V O w0 H T a w → wpAnyP P .any ops (lift V O w0 Q) [] (SameF w H) fuel listed a w
/-- And when something has; R: what was own memory at its beginning. -/
def awpG (P : Program) (ops : Array Oper) (Q : Post) (R : List Hp) (fuel : Nat) (listed : Array Bool) (T : List AV) (H : List Hp) : Prop :=
  ∀ V O w0 wr a w, Rel V O w0 H T a w → SameF wr R w → wr.heap.size ≤ w.heap.size → (∀ h ∈ H, ∀ k, h.blk = some k → blks R k ∨ wr.heap.size ≤ k) → wpAnyP P .any ops (lift V O w0 Q) [] (SameF wr R) fuel listed a w
theorem awpF_drawn {id : Nat} {l : List Oper} (hm : P.follows .mixedOrders = true) (h : awpF P l.toArray Q l.length (Array.replicate l.length false) T H) : awp P (.region id l.toArray true) Q T H :=
  awp_drawnA hm fun V O w0 a w r => (h V O w0 a w r).any
theorem awpF_cong {T' : List AV} {H' : List Hp} (hT : T = T') (hH : H = H') (h : awpF P ops Q fuel listed T' H') : awpF P ops Q fuel listed T H := hT ▸ hH ▸ h
theorem awpG_cong {T' : List AV} {H' : List Hp} (hT : T = T') (hH : H = H') (h : awpG P ops Q R fuel listed T' H') : awpG P ops Q R fuel listed T H := hT ▸ hH ▸ h
theorem awpF_yield (i : Nat) {o : Oper} {l : List Oper} (hi : nthO l i = some o) (hg : o.guard = none) (hc : takeOk l.toArray listed i = true) (hpan : ∀ c T H, ¬ Q (.panic c) T H) (av : AV)
    (h : ∀ V a w, OK V H (ev T) o a w → ∃ v, (∀ w', SameF w H w' → (execOp a.eval o).run P w' = .ok (.value v) w') ∧ Den (FB V H) w av v) (hK : awpF P l.toArray Q fuel (listed.setIfInBounds i true) (putT T o.dst av) H) : awpF P l.toArray Q (fuel + 1) listed T H := by
  have hi : l.toArray[i]? = some o := by rw [List.getElem?_toArray, ← nthO_eq]; exact hi
  intro V O w0 a w r
  obtain ⟨v, hv, hd⟩ := h V a w (r.oks o)
  unfold takeOk at hc
  simp only [Bool.and_eq_true] at hc
  exact wpAnyP.first hi hc.1.1 (fun c a w ⟨T, H, _, hq⟩ => absurd hq (hpan c T H)) (fun j o hj => by simp at hj) (Region.free_spec hi hc.1.2) (by simpa using hc.2) (.inl ⟨by simp [Region.wanted, hg], hv⟩) (fun _ _ _ => rfl) (hK V O w0 _ w (r.put _ hd))
theorem awpF_take (i : Nat) {o : Oper} {l : List Oper} (hi : nthO l i = some o) (hg : o.guard = none) (hc : takeOk l.toArray listed i = true) (hpan : ∀ c T H, ¬ Q (.panic c) T H) (av : AV) (h : WInd P o (ev T) H av) (hK : awpF P l.toArray Q fuel (listed.setIfInBounds i true) (putT T o.dst av) H) : awpF P l.toArray Q (fuel + 1) listed T H :=
  awpF_yield i hi hg hc hpan av (fun V a w ok => by obtain ⟨v, hv, hd⟩ := h V a w ok; exact ⟨v, fun w' _ => hv w', hd⟩) hK
/-- A load out of memory that is only read. -/
theorem awpF_load_at (i : Nat) {o : Oper} {l : List Oper} (hi : nthO l i = some o) (hg : o.guard = none) (hc : takeOk l.toArray listed i = true) (hpan : ∀ c T H, ¬ Q (.panic c) T H) (t : TypeId) (x : Operand) (cells : List AV) (agg : Bool) (n : Nat)
    (ho : o.op = .load t x) (hx : ev T x = .at_ cells) (ht : aggT P t = some (agg, n)) (hn : n ≤ cells.length) (hn0 : 0 < cells.length)
    (hK : awpF P l.toArray Q fuel (listed.setIfInBounds i true) (putT T o.dst (ldA agg n cells)) H) : awpF P l.toArray Q (fuel + 1) listed T H :=
  awpF_yield i hi hg hc hpan _ (fun V a w ok => by
    have hd := ok.ops x (by simp [ho, Op.operands])
    rw [hx, Den] at hd
    obtain ⟨b, off, vals, hv, hm, hl⟩ := hd
    rcases hm with rfl | ⟨b', o', e, hb, hcl⟩
    · have := hl.len; simp at this; omega
    · cases e
      obtain ⟨v, hr, hdv⟩ := run_loadVar_vals (P := P) t agg n ht w _ b off cells vals hl hn (fun _ => hn0)
      refine ⟨v, fun w' hS => ?_, hdv⟩
      have := hr w' fun j u hj => by
        have hu := (hcl j u hj).1
        have hlt : b < w.heap.size := World.block_lt_of_cell? w _ hu
        rw [World.cell?_of_block (a := ⟨b, off + j, none⟩) (hS b hlt fun ⟨y, hy, e⟩ => hb (.inr ⟨y, hy, e⟩))]; exact hu
      simp [execOp, ho, hv, Instr.loadAt, Instr.sureAddr, this]) hK
theorem awpF_go {l : List Oper} (h : awpG P l.toArray Q H fuel listed T H) : awpF P l.toArray Q fuel listed T H := fun V O w0 a w r =>
  h V O w0 w a w r (fun _ _ _ => rfl) (Nat.le_refl _) fun x hx k hk => .inl ⟨x, hx, hk⟩
theorem awpG_done (hr : Region.ready .any ops listed = []) (h : Q .normal T H) : awpG P ops Q R fuel listed T H := fun V O w0 wr a w r _ _ _ => by
  cases fuel with
  | zero => exact ⟨hr, ⟨T, H, r, h⟩⟩
  | succ n => exact ⟨fun _ => ⟨T, H, r, h⟩, fun j hj => by rw [hr] at hj; cases hj⟩
theorem wpOp_of_stpG {j : Nat} (hi : ops[j]? = some o) (hg : o.guard = none) (h : Stp P o T H (awpG P ops Q R fuel (listed.setIfInBounds j true))) (V O : Nat → Prop) (w0 wr : World) (r : Rel V O w0 H T a w) (hS : SameF wr R w) (hz : wr.heap.size ≤ w.heap.size) (hown : ∀ h ∈ H, ∀ k, h.blk = some k → blks R k ∨ wr.heap.size ≤ k) :
    wpOp P ops (lift V O w0 Q) j (fun a' w' => (([] : List Nat).contains j = false → SameF wr R w → SameF wr R w') ∧ wpAnyP P .any ops (lift V O w0 Q) [] (SameF wr R) fuel (listed.setIfInBounds j true) a' w') a w := by
  unfold wpOp
  simp only [hi]
  rw [if_pos (by simp [Region.wanted, hg])]
  have r0 : Rel V O w0 ([] ++ H) T a w := r
  refine .inl (h _ _ _ a w _ _ r0.aside fun T' H' a' w' hk hr => ?_)
  obtain ⟨r', _⟩ := r0.rejoin hr
  have hS' : SameF wr R w' := fun k hk hn => by
    refine (hr.fr.block k (Nat.lt_of_lt_of_le hk hz) fun ⟨y, hy, e⟩ => ?_).trans (hS k hk hn)
    rcases hown y hy k e with h1 | h1
    · exact hn h1
    · omega
  refine ⟨fun _ _ => hS', hk V O w0 wr a' w' r' hS' (Nat.le_trans hz hr.fr.size) fun x hx k e => ?_⟩
  rcases hr.own x hx k e with ⟨y, hy, e'⟩ | h1
  · exact hown y hy k e'
  · exact .inr (Nat.le_trans hz h1)
theorem awpG_1 (i : Nat) {o : Oper} {l : List Oper} (hr : Region.ready .any l.toArray listed = [i]) (hi : nthO l i = some o) (hg : o.guard = none) (h : Stp P o T H (awpG P l.toArray Q R fuel (listed.setIfInBounds i true))) : awpG P l.toArray Q R (fuel + 1) listed T H := fun V O w0 wr a w r hS hz hown =>
  ⟨fun h0 => (by rw [hr] at h0; cases h0), fun j hj => by
    rw [hr, List.mem_singleton] at hj; subst hj
    exact wpOp_of_stpG (by rw [List.getElem?_toArray, ← nthO_eq]; exact hi) hg h V O w0 wr r hS hz hown⟩
end
end Go.Proofs.YtfaljkenmbbbaaaDoor
