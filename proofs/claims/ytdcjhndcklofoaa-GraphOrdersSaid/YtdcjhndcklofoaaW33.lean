import Derived.Test.YtdcjhndcklofoaaW32
import Derived.Test.YtdcjhndcklofoaaW26
import Derived.Test.YtdcjhndcklofoaaW25
import Derived.Test.YtdcjhndcklofoaaW27
/- A law's argument that is a list of jobs, opened: as the graph sees it. -/
namespace Go.Proofs.Ytdcjhndcklofoaa
open Go.ChangeShapes Go.WideShapes Go.ChangeAt Go.RowKit Go.Joins Go.Deep
set_option linter.unusedSimpArgs false
set_option linter.unusedVariables false
section
variable {H : Type} {enc : TypeId × Value → H} {P : Program} {W : World} {held : Bool}
/-- A type whose values are strings, bools, ints or slices. -/
def flatT (P : Program) (t : TypeId) : Bool := match P.underlying t with
  | some .string | some .bool | some (.int _) | some (.slice _) => true
  | _ => false
theorem one_trod {n : Nat} {t : TypeId} {v : Value} {y : DataW H × List MemPlace} {sp : Nat → Bool} (hk : flatT P t = true) (h : DataW.trod enc P W 0 sp held n t [v] = some y) : v.oneCell' = true := by
  unfold flatT at hk
  split at hk
  · next ht => obtain ⟨s, e, -⟩ := DataW.trod_string ht h; simp at e; subst e; rfl
  · next ht => obtain ⟨s, e, -⟩ := DataW.trod_bool ht h; simp at e; subst e; rfl
  · next ht => obtain ⟨s, e, -⟩ := DataW.trod_int ht h; simp at e; subst e; rfl
  · next ht =>
    rcases open_slice ht h with ⟨e, -⟩ | ⟨a, len, cap, m, n, D, Pl, e, -⟩ <;> (simp at e; subst e; rfl)
  · cases hk
theorem weightsEach_mem {n : Nat} : ∀ (ts : List TypeId) (ds : List (DataW H)) (i : Nat) (t : TypeId) (d : DataW H), ts[i]? = some t → ds[i]? = some d → n ∈ d.weights P t → n ∈ DataW.weightsEach P ts ds
  | t :: ts, d :: ds, 0, t', d', h1, h2, h3 => by
    simp at h1 h2; subst h1 h2
    rw [DataW.weightsEach]; exact List.mem_append_left _ h3
  | t :: ts, d :: ds, i + 1, t', d', h1, h2, h3 => by
    rw [DataW.weightsEach]; exact List.mem_append_right _ (weightsEach_mem ts ds i t' d' (by simpa using h1) (by simpa using h2) h3)
  | [], _, i, _, _, h1, _, _ => by simp at h1
  | _ :: _, [], i, _, _, _, h2, _ => by simp at h2
theorem weightsAll_mem {n : Nat} {e : TypeId} : ∀ (ds : List (DataW H)) (d : DataW H), d ∈ ds → n ∈ d.weights P e → n ∈ DataW.weightsAll P e ds
  | x :: ds, d, h, h3 => by
    rw [DataW.weightsAll]
    rcases List.mem_cons.1 h with rfl | h
    · exact List.mem_append_left _ h3
    · exact List.mem_append_right _ (weightsAll_mem ds d h h3)
/-- One job. -/
theorem open_job {n : Nat} {e ss : TypeId} {fs : Array Field} {f0 f3 : Field} {cs : List Value} {y : DataW H × List MemPlace} {sp : Nat → Bool} (he : P.underlying e = some (.struct fs)) (hone : oneCellFields P fs = true) (hC : P.cellsOf e = 15) (hz : fs.size = 15)
    (hfl : (fs.toList.all fun f => flatT P f.type) = true) (h0 : fs[0]? = some f0) (h0s : P.underlying f0.type = some .string) (h3 : fs[3]? = some f3) (h3s : P.underlying f3.type = some (.slice ss)) (hss : P.underlying ss = some .string) (hs1 : P.cellsOf ss = 1) (hs2 : P.bytesOf ss = 16)
    (h : DataW.trod enc P W 0 sp held n e cs = some y) (hw : ∀ k ∈ y.1.weights P e, k ≤ reachBytes) :
    ∃ j : JA, DenL (fun _ => False) W j.cells cs ∧ cs.length = 15 ∧ (∀ u ∈ cs, u.oneCell' = true) ∧ j.needs.length ≤ 8796093022208 := by
  obtain ⟨xs, m, rfl, rfl, hl, hlen, hf⟩ := DataW.trod_struct he h
  rw [hC] at hl
  rw [hz] at hlen
  have each : ∀ i (hi : i < 15), ∃ (f : Field) (x : DataW H × List MemPlace), fs[i]? = some f ∧ xs[i]? = some x ∧ DataW.trod enc P W 0 sp held m f.type [cs[i]'(by omega)] = some x := by
    intro i hi
    have hfi : fs[i]? = some fs[i] := by simp [hz, hi]
    obtain ⟨o1, o2⟩ := hone_of hone i fs[i] hfi
    have hx := hf i _ hfi
    rw [o1, o2, List.getElem?_eq_getElem (by omega)] at hx
    refine ⟨_, xs[i]'(by omega), hfi, List.getElem?_eq_getElem (by omega), ?_⟩
    rw [List.drop_eq_getElem_cons (by omega), List.take_succ_cons, List.take_zero] at hx
    exact hx
  have hones : ∀ u ∈ cs, u.oneCell' = true := by
    intro u hu
    obtain ⟨i, hi, rfl⟩ := List.getElem_of_mem hu
    obtain ⟨f, x, g1, -, g3⟩ := each i (by omega)
    refine one_trod ?_ g3
    rw [List.all_eq_true] at hfl
    exact hfl f (List.mem_of_getElem? (by rw [← Array.getElem?_toList] at g1; exact g1))
  obtain ⟨g0, x0, a1, -, a3⟩ := each 0 (by omega)
  rw [h0] at a1; cases a1
  obtain ⟨s0, e0, -⟩ := DataW.trod_string h0s a3
  obtain ⟨g3, x3, b1, b2, b3⟩ := each 3 (by omega)
  rw [h3] at b1; cases b1
  have hneed : ∃ l : List (List UInt8), Den (fun _ => False) W (.sq l.length (sa l)) (cs[3]'(by omega)) ∧ l.length ≤ 8796093022208 := by
    rcases open_strings h3s hss hs1 b3 with ⟨e1, -⟩ | ⟨a, len, cap, st, e1, hb, hlc, hcm, hst, hx, hcell, -⟩
    · simp at e1
      rw [e1]
      exact ⟨[], Sl.den (xs := []) (Sl.nil _ _) (by simp), by simp⟩
    · simp at e1
      rw [e1]
      have hle : len ≤ st.length := by rw [hst]; split <;> omega
      refine ⟨(st.take len).map fun s => s.data.toList, ?_, ?_⟩
      · have hsl : Sl 0 W (.slice (some a) len cap) len ((st.take len).map Value.string) := by
          refine ⟨some a, cap, rfl, hlc, hcm, (by intro h; cases h), fun _ _ => Nat.zero_le _, fun j u hj => ⟨a, rfl, ?_⟩⟩
          rw [List.getElem?_map, List.getElem?_take] at hj
          split at hj
          · rename_i hjl
            rw [hcell j (by omega)]
            simp [List.getElem?_eq_getElem (show j < st.length by omega)] at hj
            simp [← hj, List.getD, List.getElem?_eq_getElem (show j < st.length by omega)]
          · simp at hj
        have := Sl.den hsl (fun u hu => by obtain ⟨s, -, rfl⟩ := List.mem_map.1 hu; rfl)
        have e2 : sa ((st.take len).map fun s => s.data.toList) = ((st.take len).map Value.string).map AV.x := by
          simp only [sa, List.map_map]
          apply List.map_congr_left
          intro s _
          simp [bs_of_data]
        rw [e2, List.length_map, List.length_take, Nat.min_eq_left hle]
        exact this
      · rw [List.length_map, List.length_take, Nat.min_eq_left hle]
        have hwt := hw (st.length * 16) (by
          simp only [DataW.weights, he]
          refine weightsEach_mem _ _ 3 f3.type x3.1 ?_ ?_ ?_
          · rw [List.getElem?_map, Array.getElem?_toList, h3]; rfl
          · rw [List.getElem?_map, b2]; rfl
          · rw [hx]
            simp only [DataW.weights, h3s, hs2, strs, List.length_map, List.length_take, List.length_drop]
            rw [show min len st.length + (st.length - len) = st.length by omega]
            exact List.mem_cons_self)
        unfold reachBytes at hwt
        omega
  obtain ⟨l, hl1, hl2⟩ := hneed
  obtain ⟨c0, c1, c2, c3, c4, c5, c6, c7, c8, c9, c10, c11, c12, c13, c14, rfl⟩ : ∃ c0 c1 c2 c3 c4 c5 c6 c7 c8 c9 c10 c11 c12 c13 c14, cs = [c0, c1, c2, c3, c4, c5, c6, c7, c8, c9, c10, c11, c12, c13, c14] := by
    match cs, hl with
    | [c0, c1, c2, c3, c4, c5, c6, c7, c8, c9, c10, c11, c12, c13, c14], _ => exact ⟨c0, c1, c2, c3, c4, c5, c6, c7, c8, c9, c10, c11, c12, c13, c14, rfl⟩
  have ho : ∀ i, (AV.x ([c0, c1, c2, c3, c4, c5, c6, c7, c8, c9, c10, c11, c12, c13, c14].getD i (.bool false))).one = true := fun i => by
    show ([c0, c1, c2, c3, c4, c5, c6, c7, c8, c9, c10, c11, c12, c13, c14].getD i (.bool false)).oneCell' = true
    rw [List.getD_eq_getElem?_getD]
    cases hi : [c0, c1, c2, c3, c4, c5, c6, c7, c8, c9, c10, c11, c12, c13, c14][i]? with
    | none => rfl
    | some u => exact hones u (List.mem_of_getElem? hi)
  refine ⟨⟨s0.data.toList, l, fun i => .x ([c0, c1, c2, c3, c4, c5, c6, c7, c8, c9, c10, c11, c12, c13, c14].getD i (.bool false)), ho⟩, ?_, hl, hones, hl2⟩
  simp at e0 hl1
  subst e0
  unfold JA.cells
  exact DenL.cons' (den_str s0) (DenL.cons' (den_x _) (DenL.cons' (den_x _) (DenL.cons' hl1 (DenL.cons' (den_x _) (DenL.cons' (den_x _) (DenL.cons' (den_x _) (DenL.cons' (den_x _) (DenL.cons' (den_x _) (DenL.cons' (den_x _) (DenL.cons' (den_x _) (DenL.cons' (den_x _) (DenL.cons' (den_x _) (DenL.cons' (den_x _) (DenL.cons' (den_x _) DenL.nil'))))))))))))))
/-- A list of jobs. -/
theorem open_jobs {n : Nat} {t e ss : TypeId} {fs : Array Field} {f0 f3 : Field} {v : Value} {x : DataW H × List MemPlace} {sp : Nat → Bool} (ht : P.underlying t = some (.slice e)) (he : P.underlying e = some (.struct fs)) (hone : oneCellFields P fs = true) (hC : P.cellsOf e = 15) (hz : fs.size = 15)
    (hfl : (fs.toList.all fun f => flatT P f.type) = true) (h0 : fs[0]? = some f0) (h0s : P.underlying f0.type = some .string) (h3 : fs[3]? = some f3) (h3s : P.underlying f3.type = some (.slice ss)) (hss : P.underlying ss = some .string) (hs1 : P.cellsOf ss = 1) (hs2 : P.bytesOf ss = 16) (hb1 : 1 ≤ P.bytesOf e)
    (h : DataW.trod enc P W 0 sp held n t [v] = some x) (hw : ∀ k ∈ x.1.weights P t, k ≤ reachBytes) :
    ∃ l : List JA, Den (fun _ => False) W (.sq l.length (ja l)) v ∧ l.length ≤ 140737488355328 ∧ ∀ j ∈ l, j.needs.length ≤ 8796093022208 := by
  rcases open_slice ht h with ⟨e1, -⟩ | ⟨a, len, cap, m, q, D, Pl, e1, hb, hlc, hcm, hm, hx, hel⟩
  · simp at e1
    rw [e1]
    exact ⟨[], Sl.den (xs := []) (Sl.nil _ _) (by simp), by simp, by simp⟩
  · simp at e1
    rw [e1]
    have hle : len ≤ m := by rw [hm]; split <;> omega
    have hwts : ∀ i, i < len → ∀ k ∈ (D i).weights P e, k ≤ reachBytes := by
      intro i hi k hk
      refine hw k ?_
      rw [hx]
      simp only [DataW.weights, ht]
      refine List.mem_cons_of_mem _ (List.mem_append_left _ ?_)
      exact weightsAll_mem _ _ (List.mem_map.2 ⟨i, List.mem_range.2 hi, rfl⟩) hk
    have hlenb : len ≤ 140737488355328 := by
      have hwt := hw ((len + (m - len)) * P.bytesOf e) (by
        rw [hx]
        simp only [DataW.weights, ht, List.length_map, List.length_range]
        exact List.mem_cons_self)
      unfold reachBytes at hwt
      have : len * 1 ≤ (len + (m - len)) * P.bytesOf e := Nat.mul_le_mul (by omega) hb1
      omega
    have build : ∀ k, k ≤ len → ∃ (l : List JA) (vals : List Value), l.length = k ∧ DenL (fun _ => False) W (ja l) vals ∧ vals.length = k * 15 ∧ (∀ j u, vals[j]? = some u → W.cell? (a.add j) = some u ∧ u.oneCell' = true) ∧ ∀ j ∈ l, j.needs.length ≤ 8796093022208 := by
      intro k
      induction k with
      | zero => exact fun _ => ⟨[], [], rfl, DenL.nil', rfl, by simp, by simp⟩
      | succ k ih =>
        intro hk
        obtain ⟨l, vals, h1, h2, h3', h4, h5⟩ := ih (by omega)
        obtain ⟨cs, hc, htr⟩ := hel k (by omega)
        obtain ⟨j, g1, g2, g3, g4⟩ := open_job he hone hC hz hfl h0 h0s h3 h3s hss hs1 hs2 htr (hwts k (by omega))
        rw [hC] at hc
        obtain ⟨-, -, hcell⟩ := World.cells?_some hc
        refine ⟨l ++ [j], vals ++ cs, by simp [h1], ?_, by simp [h3', g2]; omega, ?_, ?_⟩
        · rw [ja_app]
          refine DenL.app h2 ?_
          have : ja [j] = j.cells := by simp [ja]
          rw [this]; exact g1
        · intro i u hi
          by_cases hlt : i < vals.length
          · rw [List.getElem?_append_left hlt] at hi
            exact h4 i u hi
          · rw [List.getElem?_append_right (by omega)] at hi
            have hi2 : i - vals.length < 15 := by
              have := (List.getElem?_eq_some_iff.1 hi).1
              omega
            have := hcell (i - vals.length) hi2
            rw [hi, Addr.add_add] at this
            rw [show i = k * 15 + (i - vals.length) by omega]
            exact ⟨this, g3 u (List.mem_of_getElem? hi)⟩
        · intro j' hj'
          rcases List.mem_append.1 hj' with hj' | hj'
          · exact h5 j' hj'
          · rw [List.mem_singleton] at hj'; subst hj'; exact g4
    obtain ⟨l, vals, h1, h2, h3', h4, h5⟩ := build len (Nat.le_refl _)
    refine ⟨l, ?_, by omega, h5⟩
    rw [h1]
    have hsl : Sl 0 W (.slice (some a) len cap) len vals := ⟨some a, cap, rfl, hlc, hcm, (by intro h; cases h), fun _ _ => Nat.zero_le _, fun j u hj => ⟨a, rfl, (h4 j u hj).1⟩⟩
    obtain ⟨ad, cap', e2, k1, k2, k3, k4⟩ := Sl.split hsl
    rw [Den]
    refine ⟨ad, cap', vals, e2, k1, k2, k3, ?_, h2⟩
    rcases k4 with k4 | ⟨b, o, rfl, _, hcl⟩
    · exact .inl k4
    · exact .inr ⟨b, o, rfl, fun h => h, fun j u hj => ⟨hcl j u hj, (h4 j u hj).2⟩⟩
end
end Go.Proofs.Ytdcjhndcklofoaa
/- GraphOrders: the walk. -/
namespace Go.Proofs.Ytdcjhndcklofoaa
open Go.RowKit
set_option linter.unusedSimpArgs false
set_option linter.unusedVariables false
theorem jf_one (j : JF) : ∀ i, (j.cells.getD i (.x (.bool false))).one = true
  | 0 | 1 | 2 | 3 | 4 | 5 | 6 | 7 | 8 | 9 | 10 | 11 | 12 | 13 | 14 => rfl
  | _ + 15 => rfl
/-- A job, as the graph sees it. -/
def JF.toJA (j : JF) : JA := ⟨j.name, j.needs, fun i => j.cells.getD i (.x (.bool false)), jf_one j⟩
theorem jfa_ja (l : List JF) : jfa l = ja (l.map JF.toJA) := by
  induction l with
  | nil => rfl
  | cons j l ih =>
    have e1 : jfa (j :: l) = j.cells ++ jfa l := rfl
    have e2 : ja ((j :: l).map JF.toJA) = j.toJA.cells ++ ja (l.map JF.toJA) := rfl
    rw [e1, e2, ih]
    rfl
/-- A list of lists of jobs. -/
def jla (xs : List (List JA)) : List AV := xs.map fun l => .sq l.length (ja l)
theorem jla_drop (xs : List (List JA)) (k : Nat) (h : k < xs.length) : (jla xs).drop k = .sq (xs.getD k []).length (ja (xs.getD k [])) :: (jla xs).drop (k + 1) := by
  unfold jla
  rw [List.drop_eq_getElem_cons (by simpa using h)]
  simp [List.getElem?_eq_getElem h]
theorem jla_len (xs : List (List JA)) : (jla xs).length = xs.length := by simp [jla]
attribute [local simp] jla_len
theorem jobsA (bd : Nat) (l : List Int) (k : Nat) (hd : DK l) (hk : k ≤ l.length) : Spec Try.prog 6 [.box bd [.sq l.length (ia l), .x (.int .i64 k)]] [.x (.pointer (some ⟨bd, 0, none⟩))] (fun r H' => ∃ (js : List JA) (k' : Nat), r = .sq js.length (ja js) ∧ H' = [.box bd [.sq l.length (ia l), .x (.int .i64 k')]] ∧ js.length ≤ 4 ∧ Hid (∀ j ∈ js, j.needs.length ≤ 8796093022208)) :=
  (jobs_w bd l k hd hk).mono fun r H' h => by
    obtain ⟨js, k', rfl, rfl, -, h4, h5⟩ := h
    refine ⟨js.map JF.toJA, k', ?_, rfl, by simpa using h4, Lib.hid fun j hj => ?_⟩
    · rw [jfa_ja, List.length_map]
    · obtain ⟨x, hx, rfl⟩ := List.mem_map.1 hj
      have := (h5 x hx).needs
      show x.needs.length ≤ _
      omega
theorem same_self (l : List Int) (hl : l.length ≤ 1000000) : Spec Try.prog 8 [] [.sq l.length (ia l), .sq l.length (ia l)] (fun r H' => r = .x (.bool true) ∧ H' = []) := by
  have := same_spec l l hl hl
  rwa [decide_eq_true rfl] at this
end Go.Proofs.Ytdcjhndcklofoaa
/- GraphOrders: the walk. -/
namespace Go.Proofs.Ytdcjhndcklofoaa
open Go.RowKit
set_option linter.unusedSimpArgs false
set_option linter.unusedVariables false
attribute [local simp] jla_len
theorem new_w (l : List Int) (H : List Hp) : Spec Try.prog 7 H [.sq l.length (ia l)] (fun r H' => ∃ b, r = .x (.pointer (some ⟨b, 0, none⟩)) ∧ H' = .box b [.sq l.length (ia l), .x (.int .i64 0)] :: H) := new_spec l H
theorem wildA (l : List Int) (hd : DK l) : Spec Try.prog 5 [] [.sq l.length (ia l)] (fun r H' => ∃ x : List JA, r = .sq x.length (ja x) ∧ H' = [] ∧ x.length ≤ 6 ∧ Hid (∀ j ∈ x, j.needs.length ≤ 8796093022208)) :=
  (wild_spec l hd.len hd.vals).mono fun r H' ⟨x, h1, h2, h3, h4⟩ => ⟨x, h1, h2, h3, Lib.hid fun j hj => by have := h4 j hj; omega⟩
set_option maxRecDepth 100000 in
set_option maxHeartbeats 8000000 in
theorem orders_spec (l : List Int) (raw : List JA) (hd : DK l) (hr : Hid (∀ j ∈ raw, j.needs.length ≤ 8796093022208)) (hrl : raw.length ≤ 140737488355328) : Spec Try.prog 3 [] [.sq l.length (ia l), .sq raw.length (ja raw)] (fun r H' => r = .x (.bool true) ∧ H' = []) := by
  refine Spec_of Try.func3 rfl ?_
  simp only [Try.ntmps3, List.length_cons, List.length_nil, List.replicate_succ, List.replicate_zero, List.cons_append, List.nil_append, Nat.reduceAdd, Nat.reduceSub]
  (repeat' (first | with_reducible (first | refine awp_seq ?_ | refine awp_region ?_ | refine awp_block ?_ | refine awp_ret ?_ | refine awp_skip ?_ | refine awpL_nil ?_ | refine thenA_normal ?_ | refine thenA_ret ?_) | (refine awp_cond _ rfl (fun h => ?_) (fun h => ?_) <;> first | (exact absurd h (by decide)) | ((try (simp only [whn] at h)); skip)) | ((apply awpL_evl2 rfl); (case h => ((try (intro (hp : (_ : Bool) = true); ((try simp only [Bool.and_eq_true, Bool.not_eq_true', Bool.not_eq_true] at hp); (try simp only [hp, wte]); (try simp only [whn] at hp)))); (first | (apply Evl_k 0 rfl; (first | exact Evl_mv _ rfl | exact Evl_as _ rfl)) | (apply Evl_k 3 rfl; (exact Evl_len _ _ _ _ _ _ HEl.out rfl rfl)) | (apply Evl_k 11 rfl; (exact Evl_call 4 Try.f4 _ _ rfl rfl Try.func4 (by decide) rfl (VwL.refl _ _) (sane_spec))) | (apply Evl_k 17 rfl; (exact Evl_rowall _ _ _ _ _ _ rfl HElem.out rfl (by first | rfl | fail) rfl rfl (by decide))) | (apply Evl_x; (case hs => (intro _ _ h; cases h)); (case hx => rfl); (case hrun => (intro w; simp [wtb, AV.val, go_sem]; (try go_bits); rfl)))))); (case hT => ((try simp only [wtn, List.append_eq, List.foldl_cons, List.foldl_nil, List.map_cons, List.map_nil, Nat.reduceAdd, Nat.reduceMul, Nat.reduceSub, ↓reduceIte, Nat.reduceEqDiff]); rfl))) | (refine awpL_cons rfl ?_; (((refine Stp_k 11 rfl ?_; (first | (refine Stp_call 5 Try.f5 ([]) _ _ _ rfl rfl Try.func5 (by decide) rfl (List.Perm.refl _) (VwL.refl _ _) (wildA l hd) ?_; rintro _ _ ⟨x1, rfl, rfl, hx1, hm1⟩) | (refine Stp_call 7 Try.f7 ([]) _ _ _ rfl rfl Try.func7 (by decide) rfl (List.Perm.refl _) (VwL.refl _ _) (new_w l []) ?_; rintro _ _ ⟨bd, rfl, rfl⟩) | (refine Stp_call 6 Try.f6 [_] _ _ _ rfl rfl Try.func6 (by decide) rfl (List.Perm.refl _) (VwL.refl _ _) (jobsA _ l 0 hd (Nat.zero_le _)) ?_; rintro _ _ ⟨x2, k1, rfl, rfl, hx2, hm2⟩)))); apply awpL_cong; (case hT => ((try simp only [wtn, List.append_eq, List.foldl_cons, List.foldl_nil, List.map_cons, List.map_nil, Nat.reduceAdd, Nat.reduceMul, Nat.reduceSub, ↓reduceIte, Nat.reduceEqDiff]); rfl)); (case hH => ((try simp only [wtn, List.append_eq, List.foldl_cons, List.foldl_nil, List.map_cons, List.map_nil, Nat.reduceAdd, Nat.reduceMul, Nat.reduceSub, ↓reduceIte, Nat.reduceEqDiff]); rfl)))) | fail))
  · refine endA_ret _ _ (Res1 rfl (RV.tmp _) (Weak.mk' [] _ (List.Perm.refl _) (VwHs.refl _ _) (VwL.refl _ _))) ?_
    exact ⟨rfl, rfl⟩
  refine awp_loopS (S := Nat) (fun k => frm 39 [(18, .sq 3 (jla [x1, x2, raw])), (19, .x (.int .i64 3)), (20, .x (.int .i64 k))]) (fun _ => []) (fun k => k ≤ 3) (fun k => 3 - k) 0 (Weak.mk' _ [] (List.Perm.of_eq (List.append_nil _).symm) VwHs.nil (by (repeat' (first | exact VwL.nil | (refine VwL.cons ?_ ?_) | exact Vw.refl _ | exact Vw.top _ | fail)))) (by omega) fun k hk => ?_
  simp only [frm, List.replicate_succ, List.replicate_zero, List.foldl_cons, List.foldl_nil, List.set_cons_zero, List.set_cons_succ]
  by_cases hlt : k < 3
  · have hf : ([x1, x2, raw].getD k []).length ≤ 12 ∧ Hid (∀ j ∈ [x1, x2, raw].getD k [], j.needs.length ≤ 8796093022208) := by
      obtain rfl | rfl | rfl : k = 0 ∨ k = 1 ∨ k = 2 := by omega
      · exact ⟨by show x1.length ≤ 12; omega, hm1⟩
      · exact ⟨by show x2.length ≤ 12; omega, hm2⟩
      · exact ⟨by show raw.length ≤ 12; omega, hr⟩
    have hl3 : k < [x1, x2, raw].length := hlt
    generalize hx : [x1, x2, raw] = xs at hf hl3 ⊢
    have hcl : (jla xs).length = 3 := by rw [← hx]; rfl
    clear hx hm1 hm2 hr
    obtain ⟨hf1, hf2⟩ := hf
    generalize hy : xs.getD k [] = y at hf1 hf2 ⊢
    have h1 := orderA y (by omega) hf2.out
    have h2 := rorderA y (by omega) hf2.out
    have h3 := cycleA y (by omega) hf2.out
    have h4 := rcycle_spec y (by omega) hf2.out
    have h5 := same_self (ord y) (by have := ord_le y; omega)
    have h6 := same_self (cyc y) (by have := cyc_le y; omega)
    have hdr := jla_drop xs k hl3
    rw [hy] at hdr
    clear hy hf2
    (repeat' (first | with_reducible (first | refine awp_seq ?_ | refine awp_region ?_ | refine awp_block ?_ | refine awp_skip ?_ | refine awpL_nil ?_ | refine thenA_normal ?_ | refine inBlockA_normal ?_) | (refine awp_cond _ rfl (fun h => ?_) (fun h => ?_) <;> first | (exact absurd h (by decide)) | ((try (simp only [whn] at h)); first | (exfalso; omega; done) | skip)) | ((first | apply awpL_evl2 rfl | apply awpL_g2 _ _ rfl rfl rfl); (case h => ((try (intro (hp : (_ : Bool) = true); ((try simp only [Bool.and_eq_true, Bool.not_eq_true', Bool.not_eq_true] at hp); (try simp only [hp, wte]); (try simp only [whn] at hp)))); (first | (apply Evl_k 0 rfl; (first | exact Evl_mv _ rfl | exact Evl_as _ rfl)) | (apply Evl_k 1 rfl; (exact Evl_pickf _ _ _ rfl rfl)) | (apply Evl_k 6 rfl; (exact Evl_load_at _ _ _ _ _ rfl rfl HAgg.out (by first | exact Nat.le_of_ble_eq_true rfl | fail) (by first | exact Nat.le_of_ble_eq_true rfl | fail))) | (apply Evl_k 7 rfl; (exact Evl_index_sq _ _ _ _ _ _ _ _ _ _ rfl rfl rfl HEl.out rfl (by first | omega | fail) (by simp; first | omega | fail))) | (apply Evl_k 11 rfl; (first | exact Evl_call 9 Try.f9 _ _ rfl rfl Try.func9 (by decide) rfl (VwL.refl _ _) (h1) | exact Evl_call 10 Try.f10 _ _ rfl rfl Try.func10 (by decide) rfl (VwL.refl _ _) (h2) | exact Evl_call 11 Try.f11 _ _ rfl rfl Try.func11 (by decide) rfl (VwL.refl _ _) (h3) | exact Evl_call 12 Try.f12 _ _ rfl rfl Try.func12 (by decide) rfl (VwL.refl _ _) (h4) | exact Evl_call 8 Try.f8 _ _ rfl rfl Try.func8 (by decide) rfl (VwL.refl _ _) (h5) | exact Evl_call 8 Try.f8 _ _ rfl rfl Try.func8 (by decide) rfl (VwL.refl _ _) (h6))) | (apply Evl_x; (case hs => (intro _ _ h; cases h)); (case hx => rfl); (case hrun => (intro w; simp [wtb, AV.val, go_sem]; (try go_bits); rfl)))))); (case hT => ((try simp (disch := omega) only [wtn, hdr, List.append_eq, List.foldl_cons, List.foldl_nil, List.map_cons, List.map_nil, Nat.reduceAdd, Nat.reduceMul, Nat.reduceSub, ↓reduceIte, Nat.reduceEqDiff]); rfl))) | fail))
    exact ⟨k + 1, by omega, by omega, (Weak.mk' [] _ (List.Perm.refl _) (VwHs.refl _ _) (by (repeat' (first | exact VwL.nil | (refine VwL.cons ?_ ?_) | exact Vw.refl _ | exact Vw.top _ | fail))))⟩
  · (repeat' (first | with_reducible (first | refine awp_seq ?_ | refine awp_region ?_ | refine awp_ret ?_ | refine awp_exit ?_ | refine awpL_nil ?_ | refine thenA_normal ?_ | refine thenA_exit ?_ | refine inBlockA_eq ?_) | (refine awp_cond _ rfl (fun h => ?_) (fun h => ?_) <;> ((try (simp only [whn] at h)); first | (exfalso; omega; done) | skip)) | ((apply awpL_evl2 rfl); (case h => ((try (intro (hp : (_ : Bool) = true); ((try simp only [Bool.and_eq_true, Bool.not_eq_true', Bool.not_eq_true] at hp); (try simp only [hp, wte]); (try simp only [whn] at hp)))); (first | (apply Evl_k 0 rfl; (exact Evl_as _ rfl)) | (apply Evl_x; (case hs => (intro _ _ h; cases h)); (case hx => rfl); (case hrun => (intro w; simp [wtb, AV.val, go_sem]; (try go_bits); rfl)))))); (case hT => ((try simp only [wtn, List.append_eq, List.foldl_cons, List.foldl_nil, List.map_cons, List.map_nil, Nat.reduceAdd, Nat.reduceMul, Nat.reduceSub, ↓reduceIte, Nat.reduceEqDiff]); rfl))) | fail))
    refine endA_ret _ _ (Res1 rfl (RV.tmp _) (Weak.mk' [] _ (List.Perm.refl _) (VwHs.refl _ _) (VwL.refl _ _))) ?_
    exact ⟨rfl, rfl⟩
end Go.Proofs.Ytdcjhndcklofoaa
