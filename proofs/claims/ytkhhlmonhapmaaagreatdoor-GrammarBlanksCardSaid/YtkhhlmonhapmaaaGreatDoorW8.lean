import Derived.Test.YtkhhlmonhapmaaaGreatDoorW7
import Derived.Test.YtkhhlmonhapmaaaGreatDoorW6
/- A walk over symbolic memory: a region that draws its order, in which the loud operations wait one for the other. No program in sight. -/
set_option linter.unusedSimpArgs false
set_option linter.unusedVariables false
namespace Go.Proofs.YtkhhlmonhapmaaaGreatDoor
open Go.RowKit
section
variable {P : Program} {B : List Hp} {l : List Oper} {L D pi : List Nat} {n0 : Option Nat} {z : List AV} {T0 : List AV} {Q : Post}
theorem set_getD {listed : Array Bool} {i : Nat} (hi : i < listed.size) (j : Nat) : (listed.setIfInBounds i true).getD j false = if j = i then true else listed.getD j false := by
  by_cases e : j = i
  · subst e; simp [hi]
  · rw [if_neg e, getD_set_ne false (Ne.symm e)]
theorem allBut_getD {n : Nat} {D : List Nat} {j : Nat} (h : j < n) : (allBut n D).getD j false = !D.contains j := by
  simp [allBut, h]
theorem Evl.of_ev {o : Oper} {T1 T2 : List AV} {H : List Hp} {e : AV} (h : Evl P o (ev T1) H e) (he : ∀ t ∈ looks l o, T2[t]? = T1[t]?) : Evl P o (ev T2) H e := fun V a w Kc Qc r hK =>
  h V a w Kc Qc ⟨r.hok, fun x hx => by
    have : ev T1 x = ev T2 x := ev_of fun t ht => (he t (looks_op (ht ▸ hx))).symm
    rw [this]; exact r.ops x hx, r.vlt, r.gw⟩ hK
theorem mix_key (ok : MixOk l pi L D n0) (hdst : ∀ (i : Nat) (o : Oper) (d : Nat), l[i]? = some o → o.dst = some d → d < T0.length)
    (hal : ∀ (i : Nat) (o : Oper), n0 = some i → l[i]? = some o → ∀ (T : List AV) (H : List Hp), Stp P o T H (fun T' H' => ∃ b, T' = putT T o.dst (.x (.pointer (some ⟨b, 0, none⟩))) ∧ H' = .box b z :: H))
    {k : Nat} (hk : cnt (fun j => (allBut l.length D).getD j false) l.length = k) (Δ : List Deferred) (V O : Nat → Prop) (w0 : World) :
    ∀ (fuel : Nat) (listed : Array Bool) (a : Act) (w : World) (pd rest : List Nat) (es : Nat → AV) (T : List AV) (H eb : List Hp),
      listed.size = l.length → (∀ (j : Nat) (q : Oper), l[j]? = some q → listed.getD j false = true → ∀ e ∈ q.after, listed.getD e.on false = true) → cnt (fun j => listed.getD j false) l.length = fuel →
      DI P B l L pi T0 pd rest es T → dm P B l L rest T H (finM P B l D n0 z Q k) → (rest = [] ∨ ∃ i r, rest = i :: r ∧ i ∈ L) →
      (∀ j ∈ rest, listed.getD j false = false) → (∀ j ∈ D, listed.getD j false = false) → (∀ j ∈ pd, j ∈ L → listed.getD j false = true) →
      (∀ i, n0 = some i → (listed.getD i false = true → ∃ b, eb = [.box b z] ∧ es i = .x (.pointer (some ⟨b, 0, none⟩))) ∧ (listed.getD i false = false → eb = [])) → (n0 = none → eb = []) →
      Rel Δ V O w0 (B ++ (eb ++ H)) (lisT l es T0 (fun j => listed.getD j false) l.length) a w → wpAny P .any l.toArray (lift Δ V O w0 Q) fuel listed a w := by
  -- all but D have come up
  have atEnd : ∀ (fuel : Nat) (listed : Array Bool) (a : Act) (w : World) (pd rest : List Nat) (es : Nat → AV) (T : List AV) (H eb : List Hp),
      listed.size = l.length → cnt (fun j => listed.getD j false) l.length = fuel →
      DI P B l L pi T0 pd rest es T → dm P B l L rest T H (finM P B l D n0 z Q k) →
      (∀ j ∈ rest, listed.getD j false = false) → (∀ j ∈ D, listed.getD j false = false) →
      (∀ i, n0 = some i → (listed.getD i false = true → ∃ b, eb = [.box b z] ∧ es i = .x (.pointer (some ⟨b, 0, none⟩))) ∧ (listed.getD i false = false → eb = [])) → (n0 = none → eb = []) →
      Rel Δ V O w0 (B ++ (eb ++ H)) (lisT l es T0 (fun j => listed.getD j false) l.length) a w → (∀ j, j < l.length → j ∉ D → listed.getD j false = true) → wpAny P .any l.toArray (lift Δ V O w0 Q) fuel listed a w := by
    intro fuel listed a w pd rest es T H eb hsz hcnt hDI hd hru hDu hn1 hn2 hrel hall
    have hrest : rest = [] := by
      cases rest with
      | nil => rfl
      | cons i r =>
        have hip := ok.inpi i (by rw [hDI.split]; simp)
        have := hall i hip.1 hip.2.1
        rw [hru i (by simp)] at this; cases this
    subst hrest
    have hpi : pi = pd := by rw [hDI.split, List.append_nil]
    have hget : ∀ j, j < l.length → listed.getD j false = !D.contains j := fun j hj => by
      by_cases hjD : j ∈ D
      · rw [hDu j hjD]; simp [hjD]
      · rw [hall j hj hjD]; simp [hjD]
    have hlist : listed = allBut l.length D := by
      apply Array.ext
      · simp [allBut, hsz]
      · intro j h1 h2
        have e1 := hget j (by omega)
        have e2 := allBut_getD (D := D) (show j < l.length by omega)
        simp [Array.getD, h1] at e1
        simp [Array.getD, h2] at e2
        rw [e1, e2]
    have hfk : fuel = k := by rw [← hcnt, hlist, hk]
    subst hfk
    simp only [dm] at hd
    cases hn : n0 with
    | none =>
      have := hn2 hn
      subst this
      rw [hn] at hd
      simp only [finM] at hd
      rw [hlist]
      refine hd Δ V O w0 a w ?_
      rw [List.nil_append] at hrel
      have e : lisT l es T0 (fun j => listed.getD j false) l.length = T := by
        rw [hDI.eq]
        refine lisT_S _ _ _ _ _ _ fun j hj => ?_
        rw [hget j hj]
        rcases ok.cover j hj with h | h | h
        · have := (ok.inpi j h).2.1
          rw [hpi] at h; simp [h, this]
        · have : j ∉ pd := fun hp => (ok.inpi j (hpi ▸ hp)).2.1 h
          simp [h, this]
        · rw [hn] at h; cases h
      rw [e] at hrel; exact hrel
    | some i =>
      obtain ⟨o, ho, -, -⟩ := ok.alloc i hn
      have hil := (List.getElem?_eq_some_iff.1 ho).1
      have hiD : i ∉ D := fun h => (ok.dlt i h).2 hn
      obtain ⟨b, rfl, hb⟩ := (hn1 i hn).1 (hall i hil hiD)
      rw [hn] at hd
      simp only [finM] at hd
      rw [hlist]
      refine hd b Δ V O w0 a w ?_
      have hip : i ∉ pd := fun hp => (ok.inpi i (hpi ▸ hp)).2.2 hn
      have e : lisT l es T0 (fun j => listed.getD j false) l.length = putT T ((nthO l i).bind (·.dst)) (.x (.pointer (some ⟨b, 0, none⟩))) := by
        rw [nthO_eq, ho, hDI.eq, ← hb]
        refine ((lis_put ok.reg es T0 (fun j => pd.contains j) (fun j => pd.contains j || j == i) i o ho (by simpa using hip) (by simp) (fun j hj => by simp [hj])).trans ?_).symm
        refine lisT_S _ _ _ _ _ _ fun j hj => ?_
        rw [hget j hj]
        rcases ok.cover j hj with h | h | h
        · have := (ok.inpi j h).2.1
          rw [hpi] at h; simp [h, this]
        · have h1 : j ∉ pd := fun hp => (ok.inpi j (hpi ▸ hp)).2.1 h
          have h2 : j ≠ i := fun e => hiD (e ▸ h)
          simp [h, h1, h2]
        · rw [hn] at h; cases h; simp [hiD]
      rw [e] at hrel; exact hrel
  intro fuel
  induction fuel with
  | zero =>
    intro listed a w pd rest es T H eb hsz hcl hcnt hDI hd hhead hru hDu hLo hn1 hn2 hrel
    exact atEnd 0 listed a w pd rest es T H eb hsz hcnt hDI hd hru hDu hn1 hn2 hrel fun j hj _ => cnt_zero _ _ hcnt j hj
  | succ fuel ih =>
    intro listed a w pd rest es T H eb hsz hcl hcnt hDI hd hhead hru hDu hLo hn1 hn2 hrel
    by_cases hall : ∀ j, j < l.length → j ∉ D → listed.getD j false = true
    · exact atEnd (fuel + 1) listed a w pd rest es T H eb hsz hcnt hDI hd hru hDu hn1 hn2 hrel hall
    refine ⟨fun hnil => absurd (fun j hj _ => ready_nil ok.reg hsz hnil j hj) hall, fun i hi => ?_⟩
    obtain ⟨hi0, o, ho', haf⟩ := mem_ready.1 hi
    have ho : l[i]? = some o := by simpa using ho'
    have hil := (List.getElem?_eq_some_iff.1 ho).1
    have hiS : listed.getD i false = false := by
      have hi' : i < listed.size := by omega
      simp [Array.getD, hi'] at hi0 ⊢; exact hi0
    have haf' : ∀ e ∈ o.after, listed.getD e.on false = true := fun e he => haf e he (ok.reg.after i o ho e he).1
    have hiD : i ∉ D := fun h => hall fun j hj hjD => reach_S hcl l.length i j o ho haf' ((ok.dall i h j hj).resolve_left hjD)
    -- what is so behind this operation, whatever it is
    have hset := set_getD (listed := listed) (i := i) (by omega)
    have hcl' : ∀ (j : Nat) (q : Oper), l[j]? = some q → (listed.setIfInBounds i true).getD j false = true → ∀ e ∈ q.after, (listed.setIfInBounds i true).getD e.on false = true := by
      intro j q hj hs e he
      rw [hset] at hs ⊢
      split
      · rfl
      · split at hs
        · rename_i e1; subst e1; rw [ho] at hj; cases hj; exact haf' e he
        · exact hcl j q hj hs e he
    have hcnt' : cnt (fun j => (listed.setIfInBounds i true).getD j false) l.length = fuel := by
      have := cnt_set (fun j => listed.getD j false) (fun j => (listed.setIfInBounds i true).getD j false) i hiS (by rw [hset]; simp) (fun j hj => by rw [hset]; simp [hj]) l.length hil
      omega
    have hDu' : ∀ j ∈ D, (listed.setIfInBounds i true).getD j false = false := fun j hj => by
      rw [hset, if_neg (by rintro rfl; exact hiD hj)]; exact hDu j hj
    have hsz' : (listed.setIfInBounds i true).size = l.length := by simpa using hsz
    have hwant : ∀ {g : Option (Nat × Bool)}, o.guard = none → Region.wanted o (yielded l.toArray a.tmps) = true := fun hg => by simp [Region.wanted, hg]
    have hput : ∀ es' : Nat → AV, putT (lisT l es' T0 (fun j => listed.getD j false) l.length) o.dst (es' i) = lisT l es' T0 (fun j => (listed.setIfInBounds i true).getD j false) l.length := fun es' =>
      lis_put ok.reg es' T0 _ _ i o ho hiS (by rw [hset]; simp) (fun j hj => by rw [hset]; simp [hj])
    unfold wpOp
    simp only [ho']
    rcases ok.cover i hil with hip | h | hin
    case inr.inl => exact absurd h hiD
    case inr.inr =>
      -- the alloc
      obtain ⟨o', ho2, -, hg⟩ := ok.alloc i hin
      rw [ho] at ho2; cases ho2
      rw [if_pos (hwant (g := none) hg)]
      have heb := (hn1 i hin).2 hiS
      subst heb
      refine .inl (hal i o hin ho _ _ Δ V O w0 a w _ _ hrel ?_)
      rintro T' H' a' w' ⟨b, rfl, rfl⟩ r'
      have hes : ∀ j, j ≠ i → upd es i (.x (.pointer (some ⟨b, 0, none⟩))) j = es j := fun j hj => by unfold upd; rw [if_neg hj]
      have hesi : upd es i (.x (.pointer (some ⟨b, 0, none⟩))) i = .x (.pointer (some ⟨b, 0, none⟩)) := by simp [upd]
      have hnp : ∀ j ∈ pi, j ≠ i := fun j hj e => (ok.inpi j hj).2.2 (e ▸ hin)
      refine ih (listed.setIfInBounds i true) a' w' pd rest (upd es i (.x (.pointer (some ⟨b, 0, none⟩)))) T H [.box b z] hsz' hcl' hcnt' (hDI.es fun j hj => hes j (hnp j (by rw [hDI.split]; simp [hj]))) hd hhead
        (fun j hj => by rw [hset, if_neg (hnp j (by rw [hDI.split]; simp [hj]))]; exact hru j hj) hDu' (fun j hj hL => by rw [hset]; split; rfl; exact hLo j hj hL)
        (fun i' hi' => ?_) (fun h => by rw [hin] at h; cases h) ?_
      · rw [hin] at hi'; cases hi'
        exact ⟨fun _ => ⟨b, rfl, hesi⟩, fun h => by rw [hset] at h; simp at h⟩
      · rw [← hput, hesi, lisT_congr l (upd es i (.x (.pointer (some ⟨b, 0, none⟩)))) es T0 _ _ fun j _ hj => hes j (fun e => by subst e; rw [hiS] at hj; cases hj)]
        exact r'.perm (by simpa using (List.perm_middle (l₁ := B) (l₂ := H) (a := Hp.box b z)).symm)
    case inl =>
      have hn0i : ∀ i', n0 = some i' → i' ≠ i := fun i' hi' e => (ok.inpi i hip).2.2 (e ▸ hi')
      rw [hDI.split] at hip
      rcases List.mem_append.1 hip with hpd | hre
      · -- a quiet one
        obtain ⟨m, hm⟩ := List.mem_iff_getElem?.1 hpd
        have hiL : i ∉ L := fun hL => by have := hLo i hpd hL; rw [hiS] at this; cases this
        have hmp : pi[m]? = some i := by rw [hDI.split, List.getElem?_append_left (List.getElem?_eq_some_iff.1 hm).1]; exact hm
        obtain ⟨o', ho2, hg, hpre, -⟩ := ok.ops m i hmp
        rw [ho] at ho2; cases ho2
        have htk : pi.take m = pd.take m := by rw [hDI.split, List.take_append_of_le_length (Nat.le_of_lt (List.getElem?_eq_some_iff.1 hm).1)]
        rw [htk] at hpre
        have hE := hDI.quiet m i o hm hiL ho (eb ++ H)
        have hnm : i ∉ pd.take m := fun h => by
          have hn := ok.nodup
          rw [hDI.split] at hn
          have hn := (List.nodup_append.1 hn).1
          obtain ⟨m2, h2⟩ := List.mem_iff_getElem?.1 h
          rw [List.getElem?_take] at h2
          split at h2
          · rename_i hlt
            have := (List.getElem?_inj (List.getElem?_eq_some_iff.1 h2).1 hn).1 (h2.trans hm.symm)
            omega
          · cases h2
        have hE2 : Evl P o (ev (lisT l es T0 (fun j => listed.getD j false) l.length)) (B ++ (eb ++ H)) (es i) := hE.of_ev (l := l) fun t ht =>
          lis_two ok.reg es T0 _ _ i o ho hiS (by simpa using hnm) haf' (fun e he => by simpa using hpre e he) (fun j q hj hs e he e' => by
            have := hcl j q hj hs e he
            rw [e', hiS] at this; cases this) (fun j q hj hs e he e' => by
            have hs' : j ∈ pd.take m := by simpa using hs
            obtain ⟨m2, h2⟩ := List.mem_iff_getElem?.1 hs'
            rw [List.getElem?_take] at h2
            split at h2
            · rename_i hlt
              have h2p : pi[m2]? = some j := by rw [hDI.split, List.getElem?_append_left (List.getElem?_eq_some_iff.1 h2).1]; exact h2
              obtain ⟨q', hq', -, hpq, -⟩ := ok.ops m2 j h2p
              rw [hj] at hq'; cases hq'
              have := hpq e he
              rw [e'] at this
              exact hnm (by rw [← htk]; exact (List.take_subset_take_left pi (Nat.le_of_lt hlt)) this)
            · cases h2) t ht
        rw [if_pos (hwant (g := none) hg)]
        refine .inl (hE2 V a w _ _ (hrel.oks o) fun v w' he hdv => ?_)
        refine ih (listed.setIfInBounds i true) _ w' pd rest es T H eb hsz' hcl' hcnt' hDI hd hhead (fun j hj => ?_) hDu' (fun j hj hL => by rw [hset]; split; rfl; exact hLo j hj hL) (fun i' hi' => ?_) hn2 ?_
        · rw [hset, if_neg, hru j hj]
          rintro rfl
          have hn := ok.nodup
          rw [hDI.split] at hn
          exact (List.nodup_append.1 hn).2.2 j hpd j hj rfl
        · rw [hset, if_neg (hn0i i' hi')]; exact hn1 i' hi'
        · rw [← hput]; exact (hrel.quiet he).put _ hdv
      · -- one still to come: the next loud one
        obtain ⟨h, r, rfl, hL⟩ := hhead.resolve_left (fun e => by subst e; cases hre)
        have hih : i = h := by
          rcases List.mem_cons.1 hre with e | hir
          · exact e
          · exfalso
            obtain ⟨m, hm⟩ := List.mem_iff_getElem?.1 hir
            have hmp : pi[pd.length + 1 + m]? = some i := by
              rw [hDI.split, List.getElem?_append_right (by omega), show pd.length + 1 + m - pd.length = m + 1 by omega]; exact hm
            obtain ⟨o', ho2, -, -, hq⟩ := ok.ops _ i hmp
            rw [ho] at ho2; cases ho2
            have hhin : h ∈ pi.take (pd.length + 1 + m) := by
              rw [hDI.split, List.take_append, List.take_of_length_le (by omega), show pd.length + 1 + m - pd.length = m + 1 by omega]
              simp
            have := reach_S hcl l.length i h o ho haf' (hq h hhin hL)
            rw [hru h (by simp)] at this; cases this
        subst hih
        obtain ⟨o', ho2, hd2⟩ := hd
        rw [nthO_eq, ho] at ho2; cases ho2
        have hLc : L.contains i = true := by simpa using hL
        rcases hd2 with ⟨hLf, -⟩ | ⟨-, hst⟩
        · rw [hLc] at hLf; cases hLf
        have hmp : pi[pd.length]? = some i := by rw [hDI.split, List.getElem?_append_right (Nat.le_refl _)]; simp
        obtain ⟨o', ho2, hg, hpre, -⟩ := ok.ops _ i hmp
        rw [ho] at ho2; cases ho2
        have htk : pi.take pd.length = pd := by rw [hDI.split, List.take_left' rfl]
        rw [htk] at hpre
        have hnp : i ∉ pd := fun h => by
          have hn := ok.nodup
          rw [hDI.split] at hn
          exact (List.nodup_append.1 hn).2.2 i h i (by simp) rfl
        rw [if_pos (hwant (g := none) hg)]
        rw [← List.append_assoc] at hrel
        refine .inl (stp_masked hst (by rw [lisT_len, hDI.eq, lisT_len]) (fun t ht => ?_) (fun d hd => by rw [hDI.eq, lisT_len]; exact hdst i o d ho hd) hrel _ _ fun e H' v w' hm hr' => ?_)
        · rw [hDI.eq]
          exact lis_two ok.reg es T0 _ _ i o ho hiS (by simpa using hnp) haf' (fun e he => by simpa using hpre e he) (fun j q hj hs e he e' => by
            have := hcl j q hj hs e he
            rw [e', hiS] at this; cases this) (fun j q hj hs e he e' => by
            have hs' : j ∈ pd := by simpa using hs
            obtain ⟨m2, h2⟩ := List.mem_iff_getElem?.1 hs'
            have h2p : pi[m2]? = some j := by rw [hDI.split, List.getElem?_append_left (List.getElem?_eq_some_iff.1 h2).1]; exact h2
            obtain ⟨q', hq', -, hpq, -⟩ := ok.ops m2 j h2p
            rw [hj] at hq'; cases hq'
            have := hpq e he
            rw [e', hDI.split, List.take_append_of_le_length (Nat.le_of_lt (List.getElem?_eq_some_iff.1 h2).1)] at this
            exact hnp (List.mem_of_mem_take this)) t (by simpa using ht)
        · have hp1 := hDI.push ok ho e (fun hn => absurd hL hn)
          obtain ⟨q, rest', es', T', g1, g2, g3, g4, g5, g6⟩ := absorb ok r (pd ++ [i]) (upd es i e) (putT T o.dst e) H' hp1 hm
          have hnd := ok.nodup
          rw [hDI.split] at hnd
          have hnr := List.nodup_append.1 hnd
          have hri : i ∉ r := (List.nodup_cons.1 hnr.2.1).1
          have hes : ∀ j, j ∉ q → j ≠ i → es' j = es j := fun j hj hji => by rw [g5 j hj]; unfold upd; rw [if_neg hji]
          have hesi : es' i = e := by rw [g5 i (fun h => hri (by rw [g1]; simp [h]))]; simp [upd]
          have hrr : ∀ j ∈ r, (listed.setIfInBounds i true).getD j false = false := fun j hj => by
            rw [hset, if_neg (by rintro rfl; exact hri hj)]; exact hru j (by simp [hj])
          have hqp : ∀ j ∈ q, j ∈ pi := fun j hj => by rw [hDI.split, g1]; simp [hj]
          refine ih (listed.setIfInBounds i true) _ w' (pd ++ [i] ++ q) rest' es' T' H' eb hsz' hcl' hcnt' g2 g3 g4 (fun j hj => hrr j (by rw [g1]; simp [hj])) hDu' (fun j hj hjL => ?_) (fun i' hi' => ?_) hn2 ?_
          · rw [hset]
            split
            · rfl
            · rename_i hji
              rcases List.mem_append.1 hj with hj | hj
              · rcases List.mem_append.1 hj with hj | hj
                · exact hLo j hj hjL
                · simp at hj; exact absurd hj hji
              · exact absurd hjL (g6 j hj)
          · have h1 := hn0i i' hi'
            have h2 : i' ∉ q := fun h => (ok.inpi i' (hqp i' h)).2.2 hi'
            rw [hset, if_neg h1, hes i' h2 h1]; exact hn1 i' hi'
          · rw [← List.append_assoc, ← hput, hesi, lisT_congr l es' es T0 _ _ fun j _ hj => ?_]
            · exact hr'
            · have h1 : j ≠ i := by rintro rfl; rw [hiS] at hj; cases hj
              refine hes j (fun h => ?_) h1
              rw [hru j (by rw [g1]; simp [h])] at hj; cases hj
theorem awp_mix {id : Nat} {T : List AV} {H R : List Hp} (hm : P.follows .mixedOrders = true) (pi L D : List Nat) (n0 : Option Nat) (z : List AV) (k : Nat) (hp : H.Perm (B ++ R)) (hok : mixOk l pi L D n0 = true) (hd : (l.all fun o => match o.dst with | some d => decide (d < T.length) | none => true) = true)
    (hal : ∀ (i : Nat) (o : Oper), n0 = some i → nthO l i = some o → ∀ (T : List AV) (H : List Hp), Stp P o T H (fun T' H' => ∃ b, T' = putT T o.dst (.x (.pointer (some ⟨b, 0, none⟩))) ∧ H' = .box b z :: H))
    (hk : cnt (fun j => (allBut l.length D).getD j false) l.length = k) (h : dm P B l L pi T R (finM P B l D n0 z Q k)) : awp P (.region id l.toArray true) Q T H := by
  have ok := mixOk_of hok
  refine awp_drawnA hm fun Δ V O w0 a w r => ?_
  obtain ⟨q, rest', es', T', g1, g2, g3, g4, g5, g6⟩ := absorb ok pi [] (fun _ => .top) T R ⟨rfl, by
    rw [lisT_S l _ T _ (fun _ => false) _ fun j _ => by simp]
    have : ∀ k, lisT l (fun _ => .top) T (fun _ => false) k = T := fun k => by
      induction k with
      | zero => rfl
      | succ k ih => simp [lisT, ih]
    rw [this], fun k i o hk => by simp at hk⟩ h
  have hgd : ∀ j, (Array.replicate l.length false).getD j false = false := fun j => by
    by_cases hj : j < l.length <;> simp [hj]
  refine mix_key ok (fun i o d ho hod => ?_) (fun i o hi ho => hal i o hi (by rw [nthO_eq]; exact ho)) hk Δ V O w0 l.length _ a w q rest' es' T' R [] (by simp) (fun j q hj hs => by rw [hgd] at hs; cases hs) ?_ (by simpa using g2) g3 g4 (fun j _ => hgd j) (fun j _ => hgd j) (fun j hj hL => absurd hL (g6 j hj)) (fun i _ => ⟨fun h => (by rw [hgd] at h; cases h), fun _ => rfl⟩) (fun _ => rfl) ?_
  · rw [List.all_eq_true] at hd
    have := hd o (List.mem_of_getElem? ho)
    rw [hod] at this
    simpa using this
  · rw [cnt_S _ (fun _ => false) _ fun j _ => hgd j]
    have : ∀ k, cnt (fun _ => false) k = k := fun k => by
      induction k with
      | zero => rfl
      | succ k ih => simp [cnt, ih]
    exact this _
  · rw [lisT_S l es' T _ (fun _ => false) _ fun j _ => hgd j]
    have : ∀ k, lisT l es' T (fun _ => false) k = T := fun k => by
      induction k with
      | zero => rfl
      | succ k ih => simp [lisT, ih]
    rw [this]
    simpa using r.perm hp
end
end Go.Proofs.YtkhhlmonhapmaaaGreatDoor
namespace Go.Proofs.YtkhhlmonhapmaaaGreatDoor
open Go.RowKit
section
variable {P : Program} {H : List Hp} {o : Oper} {ρ : Operand → AV}
theorem Evl_rowsq (t e : TypeId) (len : Nat) (parts : Array (Nat × Operand)) (z : Value) (size bytes : Nat) (cells : List AV) (ho : o.op = .buildSlice t len parts) (hE : ElemAt P t e z size bytes)
    (hone : (parts.toList.all fun p => (ρ p.2).cells.all AV.one) = true) (hz1 : z.cells.toList.all (·.oneCell') = true) (hlen : len * size ≤ 16777216)
    (hb : bldA (fun i => some (i * size, size)) ((List.replicate len (z.cells.toList.map .x)).flatten) (parts.toList.map fun p => (p.1, ρ p.2)) = some cells) : Evl P o ρ H (.sq len cells) := by
  intro V a w Kc Q r hKc
  obtain ⟨i, hi, hz, hsize, hby⟩ := info_parts hE.info
  have hpos := hE.pos
  have hzs := hE.zs
  -- the zeros
  have hz2 : z.cells.toList.length = size := by rw [Array.length_toList]; exact hzs
  have hzeros : ((Array.range (len * size)).map (z.cells[· % z.cells.size]!)).toList = (List.replicate len z.cells.toList).flatten := by
    apply List.ext_getElem?
    intro j
    simp only [Array.toList_map, Array.toList_range, List.getElem?_map]
    by_cases hj : j < len * size
    · rw [List.getElem?_range hj]
      have hmod : j % size < size := Nat.mod_lt _ hpos
      have key : ∀ (n : Nat) (j : Nat), j < n * size → ((List.replicate n z.cells.toList).flatten)[j]? = z.cells.toList[j % size]? := by
        intro n
        induction n with
        | zero => intro j h; simp at h
        | succ n ih =>
          intro j h
          rw [List.replicate_succ, List.flatten_cons]
          by_cases h1 : j < size
          · rw [List.getElem?_append_left (by simp; omega), Nat.mod_eq_of_lt h1]
          · rw [List.getElem?_append_right (by simp; omega), Array.length_toList, hzs, ih (j - size) (by rw [Nat.succ_mul] at h; omega), Nat.mod_eq_sub_mod (Nat.le_of_not_lt h1)]
      rw [key len j hj]
      simp [hzs, getElem!_pos, hmod]
    · rw [List.getElem?_eq_none (by simpa using hj), List.getElem?_eq_none (by simp [hzs]; omega)]; rfl
  obtain ⟨vr, hf, hd⟩ := bldA_den (F := FB V H) (w := w) _ _ _ ((Array.range (len * size)).map (z.cells[· % z.cells.size]!)) cells hb (by
    rw [hzeros]
    have : (List.replicate len (z.cells.toList.map AV.x)).flatten = ((List.replicate len z.cells.toList).flatten).map AV.x := by
      rw [List.map_flatten, List.map_replicate]
    rw [this]; exact DenL.exact) (parts_den parts (fun p hp => by simp [ho, Op.operands]; exact ⟨p.1, by simpa using hp⟩) r (fun p hp => List.all_eq_true.1 hone p (by simpa using hp)))
  have hrun : (execOp a.eval o).run P w = .ok (.value (.slice (some ⟨w.heap.size, 0, none⟩) len len)) (w.alloc (.cells vr e)) := by
    have h24 : ¬ (len * i.size > 16777216) := by rw [hsize]; omega
    by_cases h0 : len * i.size = 0
    · have hf' : Instr.fill (fun j => some (j * i.size, i.size)) #[] (parts.map fun (i, x) => (i, a.eval x)).toList = some vr := by
        rw [hsize] at h0 ⊢; rw [← hf, h0]; simp [Array.range]
      have hl0 : len = 0 := by
        rw [hsize] at h0
        rcases Nat.mul_eq_zero.1 h0 with h | h
        · exact h
        · omega
      subst hl0
      have hf2 : Instr.fill (fun j => some (j * i.size, i.size)) #[] (List.map (fun x => (x.1, a.eval x.2)) parts.toList) = some vr := by rw [← hf', Array.toList_map]
      simp [execOp, ho, Instr.buildSlice, run_underlying hE.under, sizeOf, typeInfo, hi, newRow, show Array.range 0 = #[] from rfl, hf2]
    · have hf' : Instr.fill (fun j => some (j * i.size, i.size)) (Array.map (fun x => z.cells[x % z.cells.size]!) (Array.range (len * i.size))) (parts.map fun (i, x) => (i, a.eval x)).toList = some vr := by
        rw [hsize]; exact hf
      simp [execOp, ho, Instr.buildSlice, run_underlying hE.under, sizeOf, typeInfo, hi, h0, h24, zeroValue, hz, newRow] at hf' ⊢
      simp [hf']
  have hvlen : vr.size = len * size := by
    have h1 := hd.len
    have : ∀ (ps : List (Nat × AV)) (cs r : List AV), bldA (fun i => some (i * size, size)) cs ps = some r → r.length = cs.length := by
      intro ps
      induction ps with
      | nil => intro cs r h; simp only [bldA] at h; cases h; rfl
      | cons p ps ih =>
        intro cs r h
        obtain ⟨i, v⟩ := p
        simp only [bldA] at h
        split at h
        · cases h
        · rename_i hn
          rw [ih _ _ h]
          simp [spl]; omega
    have h2 := this _ _ _ hb
    rw [Array.length_toList] at h1
    rw [h1, h2]; simp [hzs]
  unfold Oper.wp
  rw [hrun]
  have hE' : Ext w (w.alloc (.cells vr e)) := Ext.al _ _
  have hones : cells.all AV.one = true := by
    have : ∀ (ps : List (Nat × AV)) (cs r : List AV), (ps.all fun p => p.2.cells.all AV.one) = true → cs.all AV.one = true → bldA (fun i => some (i * size, size)) cs ps = some r → r.all AV.one = true := by
      intro ps
      induction ps with
      | nil => intro cs r _ hc h; simp only [bldA] at h; cases h; exact hc
      | cons p ps ih =>
        intro cs r hp hc h
        obtain ⟨i, v⟩ := p
        simp only [bldA] at h
        simp only [List.all_cons, Bool.and_eq_true] at hp
        split at h
        · cases h
        · refine ih _ _ hp.2 ?_ h
          simp only [spl, List.all_append, Bool.and_eq_true]
          exact ⟨⟨List.all_eq_true.2 fun x hx => List.all_eq_true.1 hc x (List.mem_of_mem_take hx), hp.1⟩, List.all_eq_true.2 fun x hx => List.all_eq_true.1 hc x (List.mem_of_mem_drop hx)⟩
    refine this _ _ _ ?_ ?_ hb
    · rw [List.all_map]; exact hone
    · rw [List.all_eq_true]
      intro x hx
      obtain ⟨l, hl, hx⟩ := List.mem_flatten.1 hx
      rw [List.eq_of_mem_replicate hl] at hx
      obtain ⟨v, hv, rfl⟩ := List.mem_map.1 hx
      exact List.all_eq_true.1 hz1 v hv
  have hF : ∀ k, FB V H k → k < w.heap.size := fun k hk => by
    rcases hk with hk | ⟨x, hx, e⟩
    · exact r.vlt k hk
    · exact (r.hok.lt x hx k e).1
  refine hKc _ _ hE' ?_
  rw [Den]
  refine ⟨_, _, vr.toList, rfl, Nat.le_refl _, by unfold maxLen; have : len ≤ len * size := Nat.le_mul_of_pos_right _ hpos; omega, fun h => (by cases h), .inr ⟨_, _, rfl, fun hk => by have := hF _ hk; omega, fun j u hj => ⟨?_, hd.one hones u (List.mem_of_getElem? hj)⟩⟩, DenL.conv (fun k hk => .inl hk) (fun k hk _ => hE'.block k hk) _ _ hd⟩
  rw [Nat.zero_add, World.cell?_alloc_new]; simpa using hj
theorem Evl_bytes (src dst e : TypeId) (x : Operand) (l : List UInt8) (ho : o.op = .convert src dst x) (hs : P.underlying src = some .string) (ht : P.underlying dst = some (.slice e)) (he : P.elem dst = e) (hu : P.underlying e = some (.int .u8)) (hx : ρ x = .x (.string (bs l))) (hl : l.length ≤ 1000000) : Evl P o ρ H (.sq l.length (u8a l)) := by
  intro V a w Kc Q r hKc
  have hrun := conv_string_bytes (P := P) w src dst e (bs l) hs (by rw [ht, he]) he hu
  have h1 := grownCap_ge w (bs l).size 0 e
  have h2 := grownCap_le_maxLen w (bs l).size 0 e (by rw [bs_size]; unfold maxLen; omega)
  rw [bs_size] at h1 h2 hrun
  have hsl := bs_conv w 0 w.heap.size l.length e (bs l) l rfl (by simp) (by simp) (by simpa using hl) (Nat.zero_le _)
  obtain ⟨ad, cap, e1, _, _, _, _, hc⟩ := hsl
  simp only [Value.slice.injEq] at e1
  obtain ⟨rfl, -, -⟩ := e1
  have hE : Ext w (w.ext #[strObj w e (bs l)] (w.drawn + 1)) := Ext.ext _ _ _
  have hF : ∀ k, FB V H k → k < w.heap.size := fun k hk => by
    rcases hk with hk | ⟨x, hx, e⟩
    · exact r.vlt k hk
    · exact (r.hok.lt x hx k e).1
  unfold Oper.wp execOp
  simp only [ho, r.evx (x := x) (by simp [ho, Op.operands]) hx, hrun, Sem.run_bind, Sem.run_pure, Result.andThen_ok, Oper.upon]
  refine hKc _ _ hE ?_
  rw [Den]
  refine ⟨_, _, u8s l, rfl, h1, h2, fun h => (by cases h), .inr ⟨_, _, rfl, fun hk => by have := hF _ hk; omega, fun j u hj => ⟨?_, u8s_one l u (List.mem_of_getElem? hj)⟩⟩, DenL.exact⟩
  obtain ⟨x, hx, hu⟩ := hc j u hj
  cases hx
  rwa [add_none] at hu
theorem dm_end_some {P : Program} {B : List Hp} {l : List Oper} {L D : List Nat} {i : Nat} {z : List AV} {Q : Post} {k : Nat} {T : List AV} {H : List Hp} (h : ∀ b, awpA P l.toArray Q k (allBut l.length D) (putT T ((nthO l i).bind (·.dst)) (.x (.pointer (some ⟨b, 0, none⟩)))) (B ++ (.box b z :: H))) : dm P B l L [] T H (finM P B l D (some i) z Q k) := h
theorem dm_end_none {P : Program} {B : List Hp} {l : List Oper} {L D : List Nat} {z : List AV} {Q : Post} {k : Nat} {T : List AV} {H : List Hp} (h : awpA P l.toArray Q k (allBut l.length D) T (B ++ H)) : dm P B l L [] T H (finM P B l D none z Q k) := h
theorem mix_alloc {l : List Oper} {n : Nat} {t : TypeId} {o' : Oper} {d : Nat} (ho' : nthO l n = some o') (hop : o'.op = .alloc t) (hd : o'.dst = some d) {zv : Value} (hz : (P.info? t).bind (·.zero) = some zv) (h1 : zv.cells.toList.all (·.oneCell') = true) {z : List AV} (hzz : zv.cells.toList.map AV.x = z) :
    ∀ (i : Nat) (o : Oper), some n = some i → nthO l i = some o → ∀ (T : List AV) (H : List Hp), Stp P o T H (fun T' H' => ∃ b, T' = putT T o.dst (.x (.pointer (some ⟨b, 0, none⟩))) ∧ H' = .box b z :: H) := by
  intro i o hi ho T H
  cases hi
  rw [ho'] at ho; cases ho
  subst hzz
  exact Stp_alloc t zv hop hz h1 fun b => ⟨b, rfl, rfl⟩
end
end Go.Proofs.YtkhhlmonhapmaaaGreatDoor
namespace Go.Proofs.YtkhhlmonhapmaaaGreatDoor
open Go.RowKit
section
variable {P : Program} {H : List Hp} {o : Oper} {ρ : Operand → AV} {T : List AV} {K : List AV → List Hp → Prop}
theorem bldA_seq : ∀ (l : List (Nat × AV)) (done zs : List AV), l.map (·.1) = List.range' done.length l.length → zs.length = l.length → (l.all fun p => p.2.one) = true → bldA (fun i => some (i * 1, 1)) (done ++ zs) l = some (done ++ l.map (·.2))
  | [], done, zs, _, hz, _ => by
    have : zs = [] := List.eq_nil_of_length_eq_zero (by simpa using hz)
    subst this; rfl
  | (i, v) :: l, done, zs, hi, hz, h1 => by
    simp only [List.map_cons, List.length_cons, List.range'_succ, List.cons.injEq] at hi
    obtain ⟨rfl, hi⟩ := hi
    simp only [List.all_cons, Bool.and_eq_true] at h1
    cases zs with
    | nil => simp at hz
    | cons z zs =>
      have hc := one_cells' h1.1
      rw [bldA]
      simp only [hc, List.length_cons, List.length_nil, Nat.mul_one]
      rw [if_neg (by simp), spl_one _ _ _ (by simp)]
      have : (done ++ z :: zs).set done.length v = (done ++ [v]) ++ zs := by
        rw [List.set_append_right _ _ (Nat.le_refl _)]; simp
      rw [this]
      have := bldA_seq l (done ++ [v]) zs (by rw [hi]; simp) (by simpa using hz) h1.2
      simp only [Nat.mul_one] at this ⊢
      rw [this]; simp
theorem bldA_all {len : Nat} {z : Value} {parts : List (Nat × Operand)} (hz : z.cells.toList.length = 1) (hi : parts.map (·.1) = List.range len) (h1 : (parts.all fun p => (ρ p.2).one) = true) : bldA (fun i => some (i * 1, 1)) ((List.replicate len (z.cells.toList.map .x)).flatten) (parts.map fun p => (p.1, ρ p.2)) = some (parts.map fun p => ρ p.2) := by
  have hlen : parts.length = len := by have := congrArg List.length hi; simpa using this
  have := bldA_seq (parts.map fun p => (p.1, ρ p.2)) [] ((List.replicate len (z.cells.toList.map .x)).flatten) (by
    rw [List.map_map]
    rw [List.length_map, hlen, List.length_nil, ← List.range_eq_range']
    exact hi) (by
    rw [List.length_map, hlen]
    clear hi h1 hlen
    induction len with
    | zero => rfl
    | succ n ih => rw [List.replicate_succ, List.flatten_cons, List.length_append, ih, List.length_map, hz]; omega) (by rw [List.all_map]; exact h1)
  rw [List.nil_append] at this
  rw [this, List.map_map]; rfl
theorem one_all {parts : List (Nat × Operand)} (h1 : (parts.all fun p => (ρ p.2).one) = true) : (parts.all fun p => (ρ p.2).cells.all AV.one) = true := by
  rw [List.all_eq_true] at h1 ⊢
  intro p hp
  have := h1 p hp
  rw [one_cells' this]; simp [this]
theorem Evl_rowall (t e : TypeId) (len : Nat) (parts : Array (Nat × Operand)) (z : Value) (bytes : Nat) (ho : o.op = .buildSlice t len parts) (hE : ElemAt P t e z 1 bytes)
    (hi : parts.toList.map (·.1) = List.range len) (h1 : (parts.toList.all fun p => (ρ p.2).one) = true) (hz1 : z.cells.toList.all (·.oneCell') = true) (hz : z.cells.toList.length = 1) (hlen : len ≤ 16777216) : Evl P o ρ H (.sq len (parts.toList.map fun p => ρ p.2)) :=
  Evl_rowsq t e len parts z 1 bytes _ ho hE (one_all h1) hz1 (by omega) (bldA_all hz hi h1)
end
end Go.Proofs.YtkhhlmonhapmaaaGreatDoor
namespace Go.Proofs.YtkhhlmonhapmaaaGreatDoor
open Go.RowKit
structure DK (l : List Int) : Prop where
  len : l.length ≤ 140737488355328
  vals : I64 l
theorem nextv_lt (l : List Int) (k n : Nat) (hn : 1 ≤ n) : ∃ v : Nat, nextv l k n = v ∧ v < n := by
  unfold nextv
  split
  · refine ⟨(l[k] % n).toNat, ?_, ?_⟩
    · have := Int.emod_nonneg l[k] (show (n : Int) ≠ 0 by omega); omega
    · have h1 := Int.emod_nonneg l[k] (show (n : Int) ≠ 0 by omega)
      have h2 := Int.emod_lt_of_pos l[k] (show (0 : Int) < n by omega); omega
  · exact ⟨0, rfl, by omega⟩
theorem next_w (b : Nat) (l : List Int) (k n : Nat) (hd : DK l) (hk : k ≤ l.length) (hn : 1 ≤ n) (hn2 : n ≤ 1000000) : Spec Tryz.prog 19 [.box b [.sq l.length (ia l), .x (.int .i64 k)]] [.x (.pointer (some ⟨b, 0, none⟩)), .x (.int .i64 n)] (fun r H' => ∃ v k' : Nat, r = .x (.int .i64 v) ∧ H' = [.box b [.sq l.length (ia l), .x (.int .i64 k')]] ∧ v < n ∧ k' ≤ l.length) := by
  refine (next_spec b l k n hd.len hk hn hn2 hd.vals).mono ?_
  rintro r H' ⟨rfl, rfl⟩
  obtain ⟨v, e, hv⟩ := nextv_lt l k n hn
  exact ⟨v, min (k + 1) l.length, by rw [e], rfl, hv, by omega⟩
set_option maxRecDepth 100000 in
set_option maxHeartbeats 8000000 in
theorem range_w (b : Nat) (l : List Int) (k lo hi : Nat) (hd : DK l) (hk : k ≤ l.length) (hn : lo ≤ hi) (hn2 : hi ≤ 1000) : Spec Tryz.prog 45 [.box b [.sq l.length (ia l), .x (.int .i64 k)]] [.x (.pointer (some ⟨b, 0, none⟩)), .x (.int .i64 lo), .x (.int .i64 hi)] (fun r H' => ∃ v k' : Nat, r = .x (.int .i64 v) ∧ H' = [.box b [.sq l.length (ia l), .x (.int .i64 k')]] ∧ lo ≤ v ∧ v ≤ hi ∧ k' ≤ l.length) := by
  refine Spec_of Tryz.func45 rfl ?_
  simp only [Tryz.ntmps45, List.length_cons, List.length_nil, List.replicate_succ, List.replicate_zero, List.cons_append, List.nil_append, Nat.reduceAdd, Nat.reduceSub]
  have e : (hi : Int) - lo + 1 = ((hi - lo + 1 : Nat) : Int) := by omega
  (repeat' (first | with_reducible (first | refine awp_seq ?_ | refine awp_region ?_ | refine awp_ret ?_ | refine awpL_nil ?_ | refine thenA_normal ?_) | ((apply awpL_evl2 rfl); (case h => ((first | (apply Evl_k 0 rfl; (first | exact Evl_mv _ rfl | exact Evl_as _ rfl)) | (apply Evl_x; (case hs => (intro _ _ h; cases h)); (case hx => rfl); (case hrun => (intro w; simp [wtb, AV.val, go_sem]; (try go_bits); rfl)))))); (case hT => ((try simp (disch := omega) only [wtn, e, List.append_eq, List.foldl_cons, List.foldl_nil, List.map_cons, List.map_nil, Nat.reduceAdd, Nat.reduceMul, Nat.reduceSub, ↓reduceIte, Nat.reduceEqDiff]); rfl))) | (refine awpL_cons rfl ?_; (((refine Stp_k 11 rfl ?_; ((refine Stp_call 19 Tryz.f19 ([_]) _ _ _ rfl rfl Tryz.func19 (by decide) rfl (List.Perm.refl _) (VwL.refl _ _) (next_w b l k (hi - lo + 1) hd hk (by omega) (by omega)) ?_; rintro _ _ ⟨v, k', rfl, rfl, hv, hk'⟩)))); apply awpL_cong; (case hT => ((try simp (disch := omega) only [wtn, e, List.append_eq, List.foldl_cons, List.foldl_nil, List.map_cons, List.map_nil, Nat.reduceAdd, Nat.reduceMul, Nat.reduceSub, ↓reduceIte, Nat.reduceEqDiff]); rfl)); (case hH => ((try simp (disch := omega) only [wtn, e, List.append_eq, List.foldl_cons, List.foldl_nil, List.map_cons, List.map_nil, Nat.reduceAdd, Nat.reduceMul, Nat.reduceSub, ↓reduceIte, Nat.reduceEqDiff]); rfl)))) | fail))
  refine endA_ret _ _ (Res1 rfl (RV.tmp _) (Weak.mk' [] _ (List.Perm.refl _) (VwHs.refl _ _) (VwL.refl _ _))) ?_
  exact ⟨lo + v, k', by congr 2, rfl, by omega, by omega, hk'⟩
theorem getq (l : List (List UInt8)) (k : Nat) (h : k < l.length) : (sa l).drop k = .x (.string (bs (l.getD k []))) :: sa (l.drop (k + 1)) := by
  rw [sa_drop l k h, List.getD_eq_getElem?_getD, List.getElem?_eq_getElem h]; rfl
theorem pick_sa (l : List (List UInt8)) (v : Nat) (h : v < l.length) : ((sa l).drop v).getD 0 .top = .x (.string (bs (l.getD v []))) := by
  rw [getq l v h]; rfl
theorem allD (l : List (List UInt8)) (p : List UInt8 → Prop) (h : ∀ s ∈ l, p s) (v : Nat) (hv : v < l.length) : p (l.getD v []) := by
  rw [List.getD_eq_getElem?_getD, List.getElem?_eq_getElem hv]; exact h _ (List.getElem_mem hv)
def names : List (List UInt8) := [[97], [98], [99], [100], [120]]
def pats : List (List UInt8) := [[111, 107], [], [114, 46, 42, 121, 36], [94, 117, 112, 124, 103, 111, 43], [91, 48, 45, 57, 93, 43, 120, 63], [40, 97, 98, 41, 42, 99], [94, 36]]
set_option maxRecDepth 100000 in
set_option maxHeartbeats 8000000 in
theorem patterns_w : Spec Tryz.prog 73 [] [] (fun r H' => r = .sq 7 (sa pats) ∧ H' = []) := by
  refine Spec_of Tryz.func73 rfl ?_
  simp only [Tryz.ntmps73, List.length_nil, List.replicate_succ, List.replicate_zero, List.nil_append, Nat.reduceSub]
  (repeat' (first | with_reducible (first | refine awp_seq ?_ | refine awp_region ?_ | refine awp_ret ?_ | refine awpL_nil ?_ | refine thenA_normal ?_) | ((apply awpL_evl2 rfl); (case h => ((first | (apply Evl_k 0 rfl; (exact Evl_as _ rfl)) | (apply Evl_k 17 rfl; (exact Evl_rowall _ _ _ _ _ _ rfl HElem.out rfl (by first | rfl | fail) rfl rfl (by decide)))))); (case hT => ((try simp only [wtn]); rfl))) | fail))
  refine endA_ret _ _ (Res1 rfl (RV.tmp _) (Weak.mk' [] _ (List.Perm.refl _) (VwHs.refl _ _) (VwL.refl _ _))) ?_
  exact ⟨rfl, rfl⟩
end Go.Proofs.YtkhhlmonhapmaaaGreatDoor
namespace Go.Proofs.YtkhhlmonhapmaaaGreatDoor
open Go.RowKit
def ra (l : List (Int × Int)) : List AV := l.flatMap fun s => [.x (.int .i64 s.1), .x (.int .u64 s.2)]
@[simp] theorem ra_len (l : List (Int × Int)) : (ra l).length = l.length * 2 := by
  induction l with
  | nil => rfl
  | cons j l ih => simp only [ra, List.flatMap_cons, List.length_append, List.length_cons] at ih ⊢; rw [ih]; simp; omega
theorem ra_app (l m : List (Int × Int)) : ra (l ++ m) = ra l ++ ra m := by simp [ra]
end Go.Proofs.YtkhhlmonhapmaaaGreatDoor
