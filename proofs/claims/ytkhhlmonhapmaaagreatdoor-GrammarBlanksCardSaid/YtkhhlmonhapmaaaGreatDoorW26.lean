import Derived.Test.YtkhhlmonhapmaaaGreatDoorW25
import Derived.Test.YtkhhlmonhapmaaaGreatDoorW21
import Derived.Test.YtkhhlmonhapmaaaGreatDoorW23
import Derived.Test.YtkhhlmonhapmaaaGreatDoorW9
import Derived.Test.YtkhhlmonhapmaaaGreatDoorW10
import Derived.Test.YtkhhlmonhapmaaaGreatDoorW6
/- Procfiles of made jobs: what holds of them. No program in sight. -/
set_option linter.unusedSimpArgs false
set_option linter.unusedVariables false
namespace Go.Proofs.YtkhhlmonhapmaaaGreatDoor
open Go.RowKit
theorem TRs.kts {d : Nat} {c : Bool} : ∀ {xs ys : List Tok}, TRs d c xs ys → kts ys = kts xs
  | [], [], _ => rfl
  | x :: xs, y :: ys, h => by
    have := TRs.kts h.2
    simp only [Go.Proofs.YtkhhlmonhapmaaaGreatDoor.kts, List.map_cons] at this ⊢
    rw [this, h.1.1, h.1.2.1]
  | [], y :: ys, h => h.elim
  | x :: xs, [], h => h.elim
theorem kts_tk {ts us : List Tok} (h : kts us = kts ts) (k : Nat) : (tkA us k).kind = (tkA ts k).kind ∧ (tkA us k).text = (tkA ts k).text := by
  have hk := congrArg (·[k]?) h
  simp only [kts, List.getElem?_map] at hk
  unfold tkA
  rw [List.getD_eq_getElem?_getD, List.getD_eq_getElem?_getD]
  cases h1 : us[k]? with
  | none => cases h2 : ts[k]? with
    | none => exact ⟨rfl, rfl⟩
    | some t => rw [h1, h2] at hk; cases hk
  | some u => cases h2 : ts[k]? with
    | none => rw [h1, h2] at hk; cases hk
    | some t =>
      rw [h1, h2] at hk
      simp only [Option.map_some, Option.some.injEq, Prod.mk.injEq] at hk
      exact hk
theorem Sh.of_kts {ts us : List Tok} (h : kts us = kts ts) : Sh ts us 0 := by
  refine ⟨fun k => (kts_tk h k).1, fun k => (kts_tk h k).2, ?_⟩
  have := congrArg List.length h
  simpa [kts] using this
theorem RL.trans : ∀ {a b c : List JF}, RL a b → RL b c → RL a c
  | [], [], [], _, _ => trivial
  | a :: l, b :: m, c :: n, h1, h2 => by
    obtain ⟨⟨x, y, rfl⟩, h1⟩ := h1
    obtain ⟨⟨z, w, rfl⟩, h2⟩ := h2
    exact ⟨⟨z, w, rfl⟩, RL.trans h1 h2⟩
  | [], b :: m, _, h, _ => h.elim
  | a :: l, [], _, h, _ => h.elim
  | [], [], c :: n, _, h => h.elim
  | a :: l, b :: m, [], _, h => h.elim
theorem lex_text (l : List JF) (hg : ∀ j ∈ l, JGood j) (ht : (l.flatMap jobK).length ≤ 2000) (hb : (l.flatMap jobT).length ≤ 8192) : ∃ ts, lex (l.flatMap jobT) = .ok ts ∧ kts ts = l.flatMap jobK ++ [(6, [])] := by
  obtain ⟨ts, h1, h2⟩ := reads_jobs l hg (1, 1) 0 [] trivial (by omega)
  rw [List.append_nil, lexGo_end _ _ [] (by rw [skp_nil]; rfl)] at h2
  refine ⟨_, by unfold lex; rw [if_neg (by omega), h2]; rfl, ?_⟩
  simp only [kts, List.map_append] at h1 ⊢
  rw [h1]; rfl
def HeadJ (s : List UInt8) : Prop := ∃ ts, lex s = .ok ts ∧ ts.length ≤ 241 ∧ (tkA ts 0).kind = 1 ∧ (tkA ts 0).text = wJob ∧ (tkA ts 1).kind = 1 ∧ (tkA ts 1).text ∉ items
theorem HeadJ.of {s s' : List UInt8} {ts us : List Tok} (h : HeadJ s) (hx : lex s = .ok ts) (hy : lex s' = .ok us) (hk : kts us = kts ts) : HeadJ s' := by
  obtain ⟨ts', h0, hn, h1, h2, h3, h4⟩ := h
  rw [hx] at h0
  cases h0
  have hlen := congrArg List.length hk
  simp only [Go.Proofs.YtkhhlmonhapmaaaGreatDoor.kts, List.length_map] at hlen
  exact ⟨us, hy, by omega, by rw [(kts_tk hk 0).1, h1], by rw [(kts_tk hk 0).2, h2], by rw [(kts_tk hk 1).1, h3], by rw [(kts_tk hk 1).2]; exact h4⟩
theorem names4_item : ∀ s ∈ names4, s ∉ items := by decide
theorem HeadJ.start (js : List JF) (h1 : 1 ≤ js.length) (h4 : js.length ≤ 4) (hj : ∀ j ∈ js, JM j) : HeadJ (js.flatMap jobT) := by
  obtain ⟨ts, hx, hk⟩ := lex_text js (fun j h => (hj j h).good) (by have := toks_jobs js hj; omega) (by have := jobs_txt (l := js) (fun j h => by obtain ⟨i, _, h⟩ := hj j h; exact h.small); omega)
  have hkl := congrArg List.length hk
  have htk := toks_jobs js hj
  simp only [Go.Proofs.YtkhhlmonhapmaaaGreatDoor.kts, List.length_map, List.length_append, List.length_cons, List.length_nil] at hkl
  have hn : ts.length ≤ 241 := by omega
  clear hkl htk
  cases js with
  | nil => simp at h1
  | cons j js =>
    have hA : At ts 0 (kts ts) := At_of [] rfl ts rfl rfl
    rw [hk] at hA
    have e : (j :: js).flatMap jobK ++ [(6, [])] = (1, wJob) :: (1, j.name) :: ((jobK j).drop 2 ++ js.flatMap jobK ++ [(6, [])]) := by
      simp [jobK, headK]
    rw [e] at hA
    obtain ⟨a1, a2, b1, b2, -⟩ := hA
    refine ⟨ts, hx, hn, a1, a2, b1, ?_⟩
    rw [b2]
    obtain ⟨i, hi, h⟩ := hj j (by simp)
    rw [h.name]
    exact names4_item _ (getD_mem names4 [] i hi)
theorem lex_ins (u w : List UInt8) (ts : List Tok) (h : lex (u ++ 10 :: w) = .ok ts) (hl : u.length + w.length ≤ 8000) : ∃ us, lex (u ++ 10 :: ([9, 35, 32, 99, 10, 32] ++ w)) = .ok us ∧ kts us = kts ts := by
  unfold lex at h
  rw [if_neg (by simp; omega)] at h
  obtain ⟨k1, k2⟩ := lexGo_app w u.length u (1, 1) 0 (Nat.le_refl _)
  obtain ⟨j1, j2⟩ := lexGo_app ([9, 35, 32, 99, 10, 32] ++ w) u.length u (1, 1) 0 (Nat.le_refl _)
  cases hu : lexGo (1, 1) 0 u with
  | error f => rw [k1 f hu] at h; cases h
  | ok us =>
    obtain ⟨qs, e, rfl, -, -, hx⟩ := k2 us hu
    obtain ⟨qs', e', he, -, -, hy⟩ := j2 _ hu
    have hq : qs' = qs := (List.append_inj' he rfl).1.symm
    subst hq
    rw [hx] at h
    have hsk : skp ([9, 35, 32, 99, 10, 32] ++ w) = [(9 : UInt8), 35, 32, 99, 10, 32].length + skp w := by
      show skp (9 :: 35 :: ([32, 99] ++ 10 :: 32 :: w)) = 6 + skp w
      have hc : cmt (35 :: ([32, 99] ++ 10 :: 32 :: w)) = 3 := by rw [← List.cons_append, cmt_app]; rfl
      rw [skp_blank _ _ (by decide), skp_cmt _ _ (by decide), hc]
      show 3 + skp (10 :: 32 :: w) + 1 = _
      rw [skp_blank _ _ (by decide), skp_blank _ _ (by decide)]; omega
    rw [lexGo_pre _ _ _ _ hsk] at hy
    generalize hp : plc (1, 1) (u ++ [10]) = p at *
    have hpd := lexGo_pd (d := 1) (c := false) w.length w p (plc p [9, 35, 32, 99, 10, 32]) (0 + qs'.length) (Nat.le_refl _) ⟨rfl, fun h => by cases h⟩
    cases h3 : lexGo p (0 + qs'.length) w with
    | error f => rw [h3] at h; cases h
    | ok vs =>
      cases h4 : lexGo (plc p [9, 35, 32, 99, 10, 32]) (0 + qs'.length) w with
      | error g => rw [h3, h4] at hpd; exact hpd.elim
      | ok ws =>
        rw [h4] at hy
        rw [h3] at h hpd
        rw [h4] at hpd
        cases h
        exact ⟨_, by unfold lex; rw [if_neg (by simp; omega)]; exact hy, by simp only [kts, List.map_append]; congr 1; exact TRs.kts hpd⟩
def PF (s : List UInt8) : Prop := ∃ js, (1 ≤ js.length ∧ js.length ≤ 4) ∧ (∀ j ∈ js, JM j) ∧ (∃ l', RL js l' ∧ gParse s = .ok l') ∧ brc s = js.length ∧ HeadJ s ∧ ∃ s0, s = s0 ++ [10]
theorem PF.lex {s : List UInt8} (h : PF s) : LexOk s := by
  obtain ⟨js, -, -, ⟨l', -, hg⟩, -⟩ := h
  unfold gParse at hg
  cases hx : Go.Proofs.YtkhhlmonhapmaaaGreatDoor.lex s with
  | error f => rw [hx] at hg; cases hg
  | ok ts => exact ⟨ts, hx⟩
theorem PF.start (js : List JF) (h1 : 1 ≤ js.length) (h4 : js.length ≤ 4) (hj : ∀ j ∈ js, JM j) : PF (js.flatMap jobT) :=
  ⟨js, ⟨h1, h4⟩, hj, text_parse js h4 hj (by have := jobs_txt (l := js) (fun j h => by obtain ⟨i, _, h⟩ := hj j h; exact h.small); omega), brc_jobs js hj, HeadJ.start js h1 h4 hj, by
    rcases List.eq_nil_or_concat js with rfl | ⟨l, j, rfl⟩
    · simp at h1
    · exact ⟨l.flatMap jobT ++ (headT j ++ envT j.env ++ needsT j.needs ++ readyT j ++ restT j ++ ladT j.ladder ++ [10, 125]), by simp [jobT]⟩⟩
theorem PF.ins (u w : List UInt8) (h : PF (u ++ 10 :: w)) (hw : w ≠ []) (hl : u.length + w.length ≤ 8000) : PF (u ++ 10 :: ([9, 35, 32, 99, 10, 32] ++ w)) := by
  obtain ⟨js, h1, h2, ⟨l', h3, hg⟩, hb, hh, hs0⟩ := h
  obtain ⟨ts, hx⟩ := PF.lex ⟨js, h1, h2, ⟨l', h3, hg⟩, hb, hh, hs0⟩
  obtain ⟨us, hy, hk⟩ := lex_ins u w ts hx hl
  refine ⟨js, h1, h2, ?_, ?_, hh.of hx hy hk, ?_⟩
  · unfold gParse at hg ⊢
    rw [hx] at hg
    rw [hy]
    simp only at hg ⊢
    have hs := Sh.of_kts hk
    have := hs.jobs _ 0 [] [] (Nat.le_refl _) trivial
    rw [hg] at this
    cases hz : gJobs us (0 + 0) [] with
    | error f => rw [hz] at this; exact this.elim
    | ok m => rw [hz] at this; exact ⟨m, h3.trans this, rfl⟩
  · rw [← hb]
    simp only [brc, List.count_append, List.count_cons]; simp
  · obtain ⟨s0, e⟩ := hs0
    rcases List.eq_nil_or_concat w with rfl | ⟨v, c, rfl⟩
    · exact absurd rfl hw
    · have e2 : (u ++ 10 :: v) ++ [c] = s0 ++ [10] := by rw [← e]; simp
      obtain ⟨-, e3⟩ := List.append_inj' e2 rfl
      cases e3
      exact ⟨u ++ 10 :: ([9, 35, 32, 99, 10, 32] ++ v), by simp⟩
end Go.Proofs.YtkhhlmonhapmaaaGreatDoor
namespace Go.Proofs.YtkhhlmonhapmaaaGreatDoor
open Go.RowKit Go.Lib
section
variable {P : Program} {o : Oper} {H : List Hp} {T : List AV} {K : List AV → List Hp → Prop}
theorem strCells_u8s (l : List UInt8) : strCells (bs l) = u8s l := by simp [strCells, u8s, bs]
theorem append_where_str (w : World) (t u ty e : TypeId) (hE : ElemAt P t e (.int .u8 0) 1 1) (hu : P.underlying u = some .string) (ad : Option Addr) (n cap0 : Nat) (xs : List Value) (hown : w.ownsRow 0 e 1 (.slice ad n cap0) n xs) (s : ByteArray) (hf : n + s.size ≤ 1000000) :
    ∃ ad' cap' w', (Builtin.append_ #[t, u] ty #[.slice ad n cap0, .string s]).run P w = .ok (.slice ad' (n + s.size) cap') w' ∧ w'.ownsRow 0 e 1 (.slice ad' (n + s.size) cap') (n + s.size) (xs ++ strCells s) ∧ w.grownBy w' (Value.slice ad n cap0).ownBlock ∧ ∀ x, ad' = some x → ad = some x ∨ x.block = w.heap.size := by
  obtain ⟨i, hi, hz, hsize, hby⟩ := info_parts hE.info
  obtain ⟨v', w', hrun, g1, g2, g3⟩ := run_append_own_string (P := P) (w := w) 0 t u ty e i hE.under hu hi hz hsize hby (.slice ad n cap0) n xs hown s (by unfold maxLen; omega) (by omega) (Nat.zero_le _)
  obtain ⟨ad', cap', rfl, _⟩ := (Sl.own g1).shape
  refine ⟨ad', cap', w', hrun, g1, g2, fun x hx => ?_⟩
  subst hx
  have hxl : xs.length = n := by simpa using hown.1
  rcases hown.2 with ⟨e1, rfl⟩ | ⟨g, cap1, cur, e1, hbg, hg, hnc, hcm, hcs, htake⟩
  · cases e1
    by_cases hm : s.size = 0
    · have := g3.2 ⟨rfl, hm⟩; cases this
    · have hr := run_append_nil_string (P := P) w t u ty e i (.int .u8 0) hE.under hu hi hz s (by omega) (by omega) (by rw [hby]; omega)
      simp only [Nat.zero_add] at hrun
      rw [hr] at hrun
      simp only [Result.ok.injEq, Value.slice.injEq, Option.some.injEq] at hrun
      exact .inr (by rw [← hrun.1.1])
  · simp only [Value.slice.injEq] at e1
    obtain ⟨rfl, -, rfl⟩ := e1
    by_cases hroom : n + s.size ≤ cap0
    · have hcs' : cur.size = cap0 := by simpa using hcs
      have hr := run_append_room_string (P := P) w t u ty e i hE.under hu hi hsize g n cap0 cur hg s hroom (by omega)
      rw [hr] at hrun
      simp only [Result.ok.injEq, Value.slice.injEq, Option.some.injEq] at hrun
      exact .inl (by rw [← hrun.1.1])
    · have hr := run_append_grow_string (P := P) w t u ty e i (.int .u8 0) hE.under hu hi hz ⟨g, 0, none⟩ n cap0 xs (by rw [hsize]; simpa using hxl) (hown.cells (g := g) rfl) s (by omega) (by omega) (by rw [hby]; exact growslice_fits (by omega) (by omega))
      rw [hr] at hrun
      simp only [Result.ok.injEq, Value.slice.injEq, Option.some.injEq] at hrun
      exact .inr (by rw [← hrun.1.1])
theorem Stp_append_str (p : Nat) (s x : Operand) (t u e : TypeId) (ad : Option Addr) (n cap : Nat) (cells : List AV) (l : List UInt8) (ho : o.op = .call { callee := .builtin .append, args := #[s, x], argTypes := #[t, u] }) (hs : ev T s = .x (.slice ad n cap)) (hp : H[p]? = some (.row ad n cap e 1 cells))
    (hx : ev T x = .x (.string (bs l))) (hE : ElemAt P t e (.int .u8 0) 1 1) (hu : P.underlying u = some .string) (hf : n + l.length ≤ 1000000)
    (hK : ∀ ad' cap', K (putT T o.dst (.x (.slice ad' (n + l.length) cap'))) (H.set p (.row ad' (n + l.length) cap' e 1 (cells ++ u8a l)))) : Stp P o T H K := by
  intro Δ V O w0 a w Kc Q r hKc
  obtain ⟨vals, hd, hown, h1⟩ := r.hp p _ hp
  obtain ⟨ad', cap', w', hrun, g1, g2, g3⟩ := append_where_str (P := P) w t u o.type e hE hu ad n cap vals hown (bs l) (by rw [bs_size]; exact hf)
  rw [bs_size] at hrun g1
  rw [strCells_u8s] at g1
  unfold Oper.wp execOp
  simp only [ho, resolve, invoke, builtin, Sem.run_bind, Sem.run_pure, Result.andThen_ok, List.map_toArray, List.map_cons, List.map_nil, r.evx hs, r.evx hx, hrun, Oper.upon]
  have hob : (Value.slice ad n cap).ownBlock = ad.map (·.block) := by cases ad <;> rfl
  have hw : ∀ k, k < w.heap.size → (Hp.row ad n cap e 1 cells).blk ≠ some k → w'.heap[k]? = w.heap[k]? := fun k hk hn => g2.block k hk fun e => hn (by rw [hob] at e; exact e.symm)
  have hlt : ∀ k, (Hp.row ad' (n + l.length) cap' e 1 (cells ++ u8a l)).blk = some k → k < w'.heap.size ∧ ((Hp.row ad n cap e 1 cells).blk = some k ∨ w.heap.size ≤ k) := by
    intro k hk
    refine ⟨(g1.lt k (by simp only [Hp.blk] at hk; cases ad' with | none => simp at hk | some y => simpa [Value.ownBlock] using hk)).2, ?_⟩
    cases ad' with
    | none => simp [Hp.blk] at hk
    | some y =>
      simp [Hp.blk] at hk
      subst hk
      rcases g3 y rfl with rfl | e
      · exact .inl rfl
      · exact .inr (by omega)
  refine hKc _ _ _ _ (hK ad' cap') (Rel.put (Rel.turnAt (y := .row ad' (n + l.length) cap' e 1 (cells ++ u8a l)) r p hp g2.os g2.tape g2.output g2.size hw hlt ?_) _ (by rw [Den]))
  have hF : ∀ k, FB V (H.set p (.row ad' (n + l.length) cap' e 1 (cells ++ u8a l))) k → FB V H k ∨ w.heap.size ≤ k := by
    intro k hk
    rcases hk with hk | ⟨y, hy, e⟩
    · exact .inl (.inl hk)
    · rcases List.mem_or_eq_of_mem_set hy with hy | rfl
      · exact .inl (.inr ⟨y, hy, e⟩)
      · rcases (hlt k e).2 with h | h
        · exact .inl (.inr ⟨_, List.mem_of_getElem? hp, h⟩)
        · exact .inr h
  have hw' : ∀ k, k < w.heap.size → ¬ FB V H k → w'.heap[k]? = w.heap[k]? := fun k hk hn => hw k hk fun e => hn (.inr ⟨_, List.mem_of_getElem? hp, e⟩)
  exact ⟨vals ++ u8s l, (DenL.conv hF hw' _ _ hd).app DenL.exact, g1, fun u hu => by
    rcases List.mem_append.1 hu with h | h
    · exact h1 u h
    · exact u8s_one l u h⟩
end
end Go.Proofs.YtkhhlmonhapmaaaGreatDoor
namespace Go.Proofs.YtkhhlmonhapmaaaGreatDoor
open Go.RowKit
theorem nat_dn {v : Nat} (h : 0 < v) : (v : Int) - 1 = ((v - 1 : Nat) : Int) := by omega
theorem u8a_drop (b : List UInt8) (v : Nat) (h : v < b.length) : (u8a b).drop v = .x (.int .u8 ((b.getD v 0).toNat : Nat)) :: u8a (b.drop (v + 1)) := by
  have : b.drop v = b.getD v 0 :: b.drop (v + 1) := by rw [List.drop_eq_getElem_cons h, List.getD_eq_getElem?_getD, List.getElem?_eq_getElem h]; rfl
  rw [← u8a_cons, ← this]; simp [u8a, u8s]
theorem Evl_load_u8 {P : Program} {o : Oper} {ρ : Operand → AV} {H : List Hp} (t : TypeId) (x : Operand) (b : List UInt8) (v : Nat) (ho : o.op = .load t x) (hx : ρ x = .at_ ((u8a b).drop (v * 1))) (ht : aggT P t = some (false, 1)) (h : v < b.length) : Evl P o ρ H (.x (.int .u8 ((b.getD v 0).toNat : Nat))) := by
  rw [Nat.mul_one, u8a_drop b v h] at hx
  exact Evl_load_at t x _ false 1 ho hx ht (by simp) (by simp)
theorem Evl_load_u8' {P : Program} {o : Oper} {ρ : Operand → AV} {H : List Hp} (t : TypeId) (x : Operand) (b : List UInt8) (v : Nat) (ho : o.op = .load t x) (hx : ρ x = .at_ ((u8a b).drop v)) (ht : aggT P t = some (false, 1)) (h : v < b.length) : Evl P o ρ H (.x (.int .u8 ((b.getD v 0).toNat : Nat))) :=
  Evl_load_u8 t x b v ho (by rwa [Nat.mul_one]) ht h
theorem u8a_take (b : List UInt8) (v : Nat) : (u8a b).take v = u8a (b.take v) := by simp [u8a, u8s]
theorem u8a_drp (b : List UInt8) (v : Nat) : (u8a b).drop v = u8a (b.drop v) := by simp [u8a, u8s]
set_option maxRecDepth 100000 in
set_option maxHeartbeats 8000000 in
theorem procfile_x (bd : Nat) (l : List Int) (k : Nat) (hd : DK l) (hk : k ≤ l.length) : Spec Tryz.prog 13 [.box bd [.sq l.length (ia l), .x (.int .i64 k)]] [.x (.pointer (some ⟨bd, 0, none⟩))] (fun r H' => ∃ (s : List UInt8) (k' : Nat), r = .x (.string (bs s)) ∧ H' = [.box bd [.sq l.length (ia l), .x (.int .i64 k')]] ∧ k' ≤ l.length ∧ s.length ≤ 1650 ∧ PF s) := by
  refine Spec_of Tryz.func13 rfl ?_
  simp only [Tryz.ntmps13, List.length_cons, List.length_nil, List.replicate_succ, List.replicate_zero, List.cons_append, List.nil_append, Nat.reduceAdd, Nat.reduceSub]
  (repeat' (first | with_reducible (first | refine awp_seq ?_ | refine awp_region ?_ | refine awp_block ?_ | refine awpL_nil ?_ | refine thenA_normal ?_) | ((apply awpL_evl2 rfl); (case h => ((first | (apply Evl_k 0 rfl; (first | exact Evl_mv _ rfl | exact Evl_as _ rfl)) | (apply Evl_k 2 rfl; (exact Evl_extract _ _ _ _ rfl rfl rfl)) | (apply Evl_k 12 rfl; (exact Evl_bytes _ _ 5 _ _ rfl (by kernel_rfl) (by kernel_rfl) (by kernel_rfl) (by kernel_rfl) rfl (by omega)))))); (case hT => ((try simp only [wtn]); rfl))) | (refine awpL_cons rfl ?_; (((refine Stp_k 11 rfl ?_; (first | (refine Stp_call 30 Tryz.f30 [_] _ _ _ rfl rfl Tryz.func30 (by decide) rfl (List.Perm.refl _) (VwL.refl _ _) (jobs_x _ l k hd hk) ?_; rintro _ _ ⟨js, k1, rfl, rfl, hk1, hjs1, hjs, hj⟩) | (refine Stp_call 29 Tryz.f29 ([]) _ _ _ rfl rfl Tryz.func29 (by decide) rfl (List.Perm.refl _) (VwL.refl _ _) (print_x js hjs hj) ?_; rintro _ _ ⟨rfl, rfl, hs⟩) | (refine Stp_call 19 Tryz.f19 [_] _ _ _ rfl rfl Tryz.func19 (by decide) rfl (List.Perm.refl _) (VwL.refl _ _) (next_w _ l k1 4 hd hk1 (by omega) (by omega)) ?_; rintro _ _ ⟨v1, k2, rfl, rfl, hv1, hk2⟩)))); apply awpL_cong; (case hT => ((try simp only [wtn]); rfl)); (case hH => ((try simp only [wtn]); rfl)))) | fail))
  apply awp_loopS (S := Nat × Nat × List UInt8) (fun s => frm 62 [(0, .x (.pointer (some ⟨bd, 0, none⟩))), (5, .sq s.2.2.length (u8a s.2.2)), (6, .x (.int .i64 s.1))]) (fun s => [.box bd [.sq l.length (ia l), .x (.int .i64 s.2.1)]]) (fun s => s.1 ≤ 3 ∧ s.2.1 ≤ l.length ∧ s.2.2.length + 7 * s.1 ≤ 1630 ∧ PF s.2.2) (fun s => s.1) (v1, k2, js.flatMap jobT)
  case h0 => exact (Weak.mk' [] _ (List.Perm.refl _) (VwHs.refl _ _) (by (repeat' (first | exact VwL.nil | (refine VwL.cons ?_ ?_) | exact Vw.refl _ | exact Vw.top _ | fail))))
  case hi => exact ⟨by simp only; omega, hk2, by simp only; omega, PF.start js hjs1 hjs hj⟩
  rintro ⟨m, kk, tx⟩ ⟨g1, g2, g3, g4⟩
  simp only at g1 g2 g3
  have g4' : Hid (PF tx) := Lib.hid g4
  clear g4
  simp only [frm, List.replicate_succ, List.replicate_zero, List.foldl_cons, List.foldl_nil, List.set_cons_zero, List.set_cons_succ]
  by_cases hm : 0 < m
  · (repeat' (first | with_reducible (first | refine awp_seq ?_ | refine awp_region ?_ | refine awp_block ?_ | refine awp_skip ?_ | refine awpL_nil ?_ | refine thenA_normal ?_ | refine inBlockA_normal ?_) | (refine awp_cond _ rfl (fun h => ?_) (fun h => ?_) <;> ((try (simp only [whn] at h)); first | (exfalso; omega; done) | skip)) | ((first | apply awpL_evl2 rfl | apply awpL_g2 _ _ rfl rfl rfl); (case h => ((try (intro (hp : (_ : Bool) = true); ((try simp only [Bool.and_eq_true] at hp); (try simp only [hp, wte]); (try simp only [whn] at hp)))); (first | (apply Evl_k 0 rfl; (first | exact Evl_mv _ rfl | exact Evl_as _ rfl)) | (apply Evl_k 1 rfl; (exact Evl_and _ _ _ _ _ rfl rfl rfl rfl)) | (apply Evl_k 3 rfl; (exact Evl_len _ _ _ _ _ _ HEl.out rfl rfl)) | (apply Evl_k 6 rfl; (exact Evl_load_u8' _ _ _ _ rfl rfl HAgg.out (by omega))) | (apply Evl_k 7 rfl; (first | exact Evl_index_sq _ _ _ _ _ _ _ _ _ _ rfl rfl rfl HEl.out rfl (by omega) (by rw [u8a_len]; omega) | (exact Evl_index_sq _ _ _ _ _ _ _ _ _ _ rfl rfl rfl HEl.out (nat_dn (by omega)) (by omega) (by rw [u8a_len]; omega)))) | (apply Evl_x; (case hs => (intro _ _ h; cases h)); (case hx => rfl); (case hrun => (intro w; simp [wtb, AV.val, go_sem]; (try go_bits); rfl)))))); (case hT => ((try simp (disch := omega) only [wtn, nat_up, List.append_eq, List.foldl_cons, List.foldl_nil, List.map_cons, List.map_nil, Nat.reduceAdd, Nat.reduceMul, Nat.reduceSub, ↓reduceIte, Nat.reduceEqDiff]); rfl))) | (refine awpL_cons rfl ?_; (((refine Stp_k 11 rfl ?_; ((refine Stp_call 19 Tryz.f19 [_] _ _ _ rfl rfl Tryz.func19 (by decide) rfl (List.Perm.refl _) (VwL.refl _ _) (next_w _ l kk (tx.length + 1) hd g2 (by omega) (by omega)) ?_; rintro _ _ ⟨v, k3, rfl, rfl, hv, hk3⟩)))); apply awpL_cong; (case hT => ((try simp (disch := omega) only [wtn, nat_up, List.append_eq, List.foldl_cons, List.foldl_nil, List.map_cons, List.map_nil, Nat.reduceAdd, Nat.reduceMul, Nat.reduceSub, ↓reduceIte, Nat.reduceEqDiff]); rfl)); (case hH => ((try simp (disch := omega) only [wtn, nat_up, List.append_eq, List.foldl_cons, List.foldl_nil, List.map_cons, List.map_nil, Nat.reduceAdd, Nat.reduceMul, Nat.reduceSub, ↓reduceIte, Nat.reduceEqDiff]); rfl)))) | fail))
    · have hvl : v < tx.length := h.1.1.2
      have hv0 : 0 < v := by have := h.1.1.1; omega
      have hb1 : (tx[v - 1]?.getD 0).toNat = 10 := by have := h.2; omega
      have hins : PF (tx.take (v - 0) ++ [9, 35, 32, 99, 10, 32] ++ (tx.drop v).take (tx.length - v)) := by
        have e10 : tx[v - 1]?.getD 0 = 10 := UInt8.toNat_inj.1 (by rw [hb1]; rfl)
        have hsp : tx.take v = tx.take (v - 1) ++ [10] := by
          have := List.take_succ_eq_append_getElem (l := tx) (i := v - 1) (by omega)
          rw [show v - 1 + 1 = v from by omega] at this
          rw [this]
          congr 1
          rw [List.getElem?_eq_getElem (by omega)] at e10
          simpa using e10
        have htx : tx = tx.take (v - 1) ++ 10 :: tx.drop v := by
          conv => lhs; rw [← List.take_append_drop v tx, hsp]
          simp
        have hg := g4'.out
        rw [htx] at hg
        have := PF.ins _ _ hg (by intro e; have := congrArg List.length e; simp at this; omega) (by simp; omega)
        rw [Nat.sub_zero, List.take_of_length_le (show (tx.drop v).length ≤ tx.length - v by simp), hsp]
        simpa using this
      clear h
      refine awp_mix (B := []) (R := [_]) mixed [1, 2, 3, 6, 7, 8, 0, 4, 5, 9] [0, 4, 5, 9] [10] none [] 1 (List.Perm.refl _) (by decide +kernel) rfl (fun i o h => by cases h) (by decide) ?_
      (repeat' (first | (apply dm_quiet rfl rfl; (case h => (intro H1; (try simp only [List.nil_append]); (first | (apply Evl_k 0 rfl; (exact Evl_mv _ rfl)) | (apply Evl_k 9 rfl; (exact Evl_slice_sq _ _ _ _ _ _ _ _ _ _ rfl rfl HEl.out (by first | exact .inl ⟨rfl, rfl⟩ | exact .inr ⟨_, _, rfl, rfl⟩ | fail) (by first | exact .inl ⟨rfl, rfl⟩ | exact .inr ⟨_, _, rfl, rfl⟩ | fail) (by omega) (by omega)))))); (case hT => ((try simp (disch := omega) only [wtn, u8a_take, u8a_drp, List.append_eq, List.foldl_cons, List.foldl_nil, List.map_cons, List.map_nil, Nat.reduceAdd, Nat.reduceMul, Nat.reduceSub, ↓reduceIte, Nat.reduceEqDiff]); rfl))) | (apply dm_loud rfl rfl; (first | (refine Stp_k 13 rfl ?_; (first | (refine Stp_append _ _ _ _ _ _ _ _ _ _ _ _ _ _ rfl rfl FRow.out (Src.sq rfl) HElem.out (by simp [u8a_len] <;> omega) (fits _ _ (by simp <;> omega) (by decide)) (fun ad cap => ?_)) | (refine Stp_append_str _ _ _ _ _ _ _ _ _ _ [9, 35, 32, 99, 10, 32] rfl rfl FRow.out rfl HElem.out (by kernel_rfl) (by simp <;> omega) (fun ad cap => ?_)))) | (refine Stp_k 17 rfl ?_; ((refine Stp_buildSlice _ _ _ _ _ _ _ _ rfl HElem.out (by first | rfl | fail) rfl (by decide) rfl (fun b => ?_))))); refine ⟨_, rfl, ?_⟩; apply dm_cong; (case hT => ((try simp (disch := omega) only [wtn, u8a_take, u8a_drp, List.append_eq, List.foldl_cons, List.foldl_nil, List.map_cons, List.map_nil, Nat.reduceAdd, Nat.reduceMul, Nat.reduceSub, ↓reduceIte, Nat.reduceEqDiff]); rfl)); (case hH => ((try simp (disch := omega) only [wtn, u8a_take, u8a_drp, List.append_eq, List.foldl_cons, List.foldl_nil, List.map_cons, List.map_nil, Nat.reduceAdd, Nat.reduceMul, Nat.reduceSub, ↓reduceIte, Nat.reduceEqDiff]); rfl))) | fail))
      (first | refine dm_end_none ?_ | fail); (apply awpA_cong; (case hT => rfl); (case hH => (simp only [List.nil_append]; rfl))); (refine awpA_1 10 (by decide +kernel) rfl rfl ?_; (first | (apply Stp_evl; (case h => ((apply Evl_k 0 rfl; (exact Evl_as _ rfl)))); (apply awpA_cong; (case hT => ((try simp only [wtn]); rfl)); (case hH => rfl))) | fail)); refine awpA_done (by decide +kernel) ?_
      (repeat' (first | with_reducible (first | refine awp_region ?_ | refine awpL_nil ?_ | refine thenA_normal ?_ | refine inBlockA_normal ?_) | ((apply awpL_evl2 rfl); (case h => ((first | (apply Evl_k 0 rfl; (first | exact Evl_mv _ rfl | exact Evl_as _ rfl)) | (apply Evl_x; (case hs => (intro _ _ h; cases h)); (case hx => rfl); (case hrun => (intro w; simp [wtb, AV.val, go_sem]; (try go_bits); rfl)))))); (case hT => ((try simp only [wtn]); rfl))) | fail))
      have e : (tx.take (v - 0) ++ [9, 35, 32, 99, 10, 32] ++ (tx.drop v).take (tx.length - v)).length = v - 0 + 6 + (tx.length - v) := by
        simp only [List.length_append, List.length_take, List.length_drop, List.length_cons, List.length_nil]; omega
      refine ⟨(m - 1, k3, tx.take (v - 0) ++ [9, 35, 32, 99, 10, 32] ++ (tx.drop v).take (tx.length - v)), by simp only; omega, ⟨by simp only; omega, hk3, by simp only [e]; omega, hins⟩, ?_⟩
      simp only [e, u8a_app]
      exact Weak.mk' [.row ad _ cap _ _ _] [.box bd _] (List.Perm.refl _) (VwHs.refl _ _) (by (repeat' (first | exact VwL.nil | apply VwL.cons | exact Vw.row (List.Mem.head _) (VwL.refl _ _) | exact Vw.refl _ | exact Vw.top _ | (refine Vw.eq ?_; (congr 3; omega)) | fail)))
    · exact ⟨(m - 1, k3, tx), by simp only; omega, ⟨by simp only; omega, hk3, by simp only; omega, g4'.out⟩, (Weak.mk' [] _ (List.Perm.refl _) (VwHs.refl _ _) (by (repeat' (first | exact VwL.nil | (refine VwL.cons ?_ ?_) | exact Vw.refl _ | exact Vw.top _ | (refine Vw.eq ?_; (congr 3; omega)) | fail))))⟩
  · (repeat' (first | with_reducible (first | refine awp_seq ?_ | refine awp_region ?_ | refine awp_ret ?_ | refine awp_exit ?_ | refine awpL_nil ?_ | refine thenA_normal ?_ | refine thenA_exit ?_ | refine inBlockA_eq ?_) | (refine awp_cond _ rfl (fun h => ?_) (fun h => ?_) <;> ((try (simp only [whn] at h)); first | (exfalso; omega; done) | skip)) | ((apply awpL_evl2 rfl); (case h => ((first | (apply Evl_k 0 rfl; (first | exact Evl_mv _ rfl | exact Evl_as _ rfl)) | (apply Evl_k 12 rfl; (exact Evl_string _ _ 5 _ tx rfl (by kernel_rfl) (by kernel_rfl) (by kernel_rfl) (Src.sq rfl))) | (apply Evl_x; (case hs => (intro _ _ h; cases h)); (case hx => rfl); (case hrun => (intro w; simp [wtb, AV.val, go_sem]; skip; rfl)))))); (case hT => ((try simp only [wtn]); rfl))) | fail))
    refine endA_ret _ _ (Res1 rfl (RV.tmp _) (Weak.mk' [] _ (List.Perm.refl _) (VwHs.refl _ _) (VwL.refl _ _))) ?_
    exact ⟨tx, kk, rfl, rfl, g2, by omega, g4'.out⟩
theorem procfile_w (bd : Nat) (l : List Int) (k : Nat) (hd : DK l) (hk : k ≤ l.length) : Spec Tryz.prog 13 [.box bd [.sq l.length (ia l), .x (.int .i64 k)]] [.x (.pointer (some ⟨bd, 0, none⟩))] (fun r H' => ∃ (s : List UInt8) (k' : Nat), r = .x (.string (bs s)) ∧ H' = [.box bd [.sq l.length (ia l), .x (.int .i64 k')]] ∧ k' ≤ l.length ∧ s.length ≤ 3650 ∧ LexOk s) :=
  (procfile_x bd l k hd hk).mono fun r H' ⟨s, k', h1, h2, h3, h4, h5⟩ => ⟨s, k', h1, h2, h3, by omega, h5.lex⟩
end Go.Proofs.YtkhhlmonhapmaaaGreatDoor
namespace Go.Proofs.YtkhhlmonhapmaaaGreatDoor
open Go.RowKit
section
variable {P : Program} {Δ : List Deferred} {V O : Nat → Prop} {w0 w w' : World} {B H H' R : List Hp} {T T' : List AV} {a a' : Act} {o : Oper} {ops : Array Oper} {Q : Post} {listed : Array Bool} {fuel : Nat}
def SameF (wr : World) (R : List Hp) (w : World) : Prop := ∀ k, k < wr.heap.size → ¬ blks R k → w.heap[k]? = wr.heap[k]?
def awpF (P : Program) (ops : Array Oper) (Q : Post) (fuel : Nat) (listed : Array Bool) (T : List AV) (H : List Hp) : Prop :=
  ∀ Δ V O w0 a w, Rel Δ V O w0 H T a w → wpAnyP P .any ops (lift Δ V O w0 Q) [] (SameF w H) fuel listed a w
def awpG (P : Program) (ops : Array Oper) (Q : Post) (R : List Hp) (fuel : Nat) (listed : Array Bool) (T : List AV) (H : List Hp) : Prop :=
  ∀ Δ V O w0 wr a w, Rel Δ V O w0 H T a w → SameF wr R w → wr.heap.size ≤ w.heap.size → (∀ h ∈ H, ∀ k, h.blk = some k → blks R k ∨ wr.heap.size ≤ k) → wpAnyP P .any ops (lift Δ V O w0 Q) [] (SameF wr R) fuel listed a w
theorem awpF_drawn {id : Nat} {l : List Oper} (hm : P.follows .mixedOrders = true) (h : awpF P l.toArray Q l.length (Array.replicate l.length false) T H) : awp P (.region id l.toArray true) Q T H :=
  awp_drawnA hm fun Δ V O w0 a w r => (h Δ V O w0 a w r).any
theorem awpF_cong {T' : List AV} {H' : List Hp} (hT : T = T') (hH : H = H') (h : awpF P ops Q fuel listed T' H') : awpF P ops Q fuel listed T H := hT ▸ hH ▸ h
theorem awpG_cong {T' : List AV} {H' : List Hp} (hT : T = T') (hH : H = H') (h : awpG P ops Q R fuel listed T' H') : awpG P ops Q R fuel listed T H := hT ▸ hH ▸ h
theorem awpF_yield (i : Nat) {o : Oper} {l : List Oper} (hi : nthO l i = some o) (hg : o.guard = none) (hc : takeOk l.toArray listed i = true) (hpan : ∀ c T H, ¬ Q (.panic c) T H) (av : AV)
    (h : ∀ V a w, OK V H (ev T) o a w → ∃ v, (∀ w', SameF w H w' → (execOp a.eval o).run P w' = .ok (.value v) w') ∧ Den (FB V H) w av v) (hK : awpF P l.toArray Q fuel (listed.setIfInBounds i true) (putT T o.dst av) H) : awpF P l.toArray Q (fuel + 1) listed T H := by
  have hi : l.toArray[i]? = some o := by rw [List.getElem?_toArray, ← nthO_eq]; exact hi
  intro Δ V O w0 a w r
  obtain ⟨v, hv, hd⟩ := h V a w (r.oks o)
  unfold takeOk at hc
  simp only [Bool.and_eq_true] at hc
  exact wpAnyP.first hi hc.1.1 (fun c a w ⟨T, H, _, hq⟩ => absurd hq (hpan c T H)) (fun j o hj => by simp at hj) (Region.free_spec hi hc.1.2) (by simpa using hc.2) (.inl ⟨by simp [Region.wanted, hg], hv⟩) (fun _ _ _ => rfl) (hK Δ V O w0 _ w (r.put _ hd))
theorem awpF_take (i : Nat) {o : Oper} {l : List Oper} (hi : nthO l i = some o) (hg : o.guard = none) (hc : takeOk l.toArray listed i = true) (hpan : ∀ c T H, ¬ Q (.panic c) T H) (av : AV) (h : WInd P o (ev T) H av) (hK : awpF P l.toArray Q fuel (listed.setIfInBounds i true) (putT T o.dst av) H) : awpF P l.toArray Q (fuel + 1) listed T H :=
  awpF_yield i hi hg hc hpan av (fun V a w ok => by obtain ⟨v, hv, hd⟩ := h V a w ok; exact ⟨v, fun w' _ => hv w', hd⟩) hK
theorem awpF_go {l : List Oper} (h : awpG P l.toArray Q H fuel listed T H) : awpF P l.toArray Q fuel listed T H := fun Δ V O w0 a w r =>
  h Δ V O w0 w a w r (fun _ _ _ => rfl) (Nat.le_refl _) fun x hx k hk => .inl ⟨x, hx, hk⟩
theorem awpG_done (hr : Region.ready .any ops listed = []) (h : Q .normal T H) : awpG P ops Q R fuel listed T H := fun Δ V O w0 wr a w r _ _ _ => by
  cases fuel with
  | zero => exact ⟨hr, ⟨T, H, r, h⟩⟩
  | succ n => exact ⟨fun _ => ⟨T, H, r, h⟩, fun j hj => by rw [hr] at hj; cases hj⟩
theorem wpOp_of_stpG {j : Nat} (hi : ops[j]? = some o) (hg : o.guard = none) (h : Stp P o T H (awpG P ops Q R fuel (listed.setIfInBounds j true))) (Δ : List Deferred) (V O : Nat → Prop) (w0 wr : World) (r : Rel Δ V O w0 H T a w) (hS : SameF wr R w) (hz : wr.heap.size ≤ w.heap.size) (hown : ∀ h ∈ H, ∀ k, h.blk = some k → blks R k ∨ wr.heap.size ≤ k) :
    wpOp P ops (lift Δ V O w0 Q) j (fun a' w' => (([] : List Nat).contains j = false → SameF wr R w → SameF wr R w') ∧ wpAnyP P .any ops (lift Δ V O w0 Q) [] (SameF wr R) fuel (listed.setIfInBounds j true) a' w') a w := by
  unfold wpOp
  simp only [hi]
  rw [if_pos (by simp [Region.wanted, hg])]
  have r0 : Rel Δ V O w0 ([] ++ H) T a w := r
  refine .inl (h _ _ _ _ a w _ _ r0.aside fun T' H' a' w' hk hr => ?_)
  obtain ⟨r', _⟩ := r0.rejoin hr
  have hS' : SameF wr R w' := fun k hk hn => by
    refine (hr.fr.block k (Nat.lt_of_lt_of_le hk hz) fun ⟨y, hy, e⟩ => ?_).trans (hS k hk hn)
    rcases hown y hy k e with h1 | h1
    · exact hn h1
    · omega
  refine ⟨fun _ _ => hS', hk Δ V O w0 wr a' w' r' hS' (Nat.le_trans hz hr.fr.size) fun x hx k e => ?_⟩
  rcases hr.own x hx k e with ⟨y, hy, e'⟩ | h1
  · exact hown y hy k e'
  · exact .inr (Nat.le_trans hz h1)
theorem awpG_1 (i : Nat) {o : Oper} {l : List Oper} (hr : Region.ready .any l.toArray listed = [i]) (hi : nthO l i = some o) (hg : o.guard = none) (h : Stp P o T H (awpG P l.toArray Q R fuel (listed.setIfInBounds i true))) : awpG P l.toArray Q R (fuel + 1) listed T H := fun Δ V O w0 wr a w r hS hz hown =>
  ⟨fun h0 => (by rw [hr] at h0; cases h0), fun j hj => by
    rw [hr, List.mem_singleton] at hj; subst hj
    exact wpOp_of_stpG (by rw [List.getElem?_toArray, ← nthO_eq]; exact hi) hg h Δ V O w0 wr r hS hz hown⟩
end
end Go.Proofs.YtkhhlmonhapmaaaGreatDoor
namespace Go.Proofs.YtkhhlmonhapmaaaGreatDoor
open Go.RowKit
section
variable {P : Program} {Δ : List Deferred} {V O : Nat → Prop} {w0 w w' : World} {H H' D : List Hp} {T T' : List AV} {a : Act} {o : Oper} {ρ : Operand → AV} {Q : Post}
theorem awp_row3 {c : Code} (i : Nat) {ad : Option Addr} {n cap : Nat} {e : TypeId} {size : Nat} {cells : List AV} (hi : H[i]? = some (.row ad n cap e size cells))
    (h : n ≤ cap → cap ≤ maxLen → ((ad = none ∧ n = 0 ∧ cap = 0) ∨ ∃ b, ad = some ⟨b, 0, none⟩) → awp P c Q T H) : awp P c Q T H := fun Δ V O w0 a w r => by
  obtain ⟨vals, hd, hown, hone⟩ := r.hp i _ hi
  rcases hown.2 with ⟨e1, rfl⟩ | ⟨g', cap1, cur, e1, hbg, hg, hnc, hcm, hcs, htake⟩
  · cases e1; exact h (Nat.le_refl _) (Nat.zero_le _) (.inl ⟨rfl, rfl, rfl⟩) Δ V O w0 a w r
  · simp only [Value.slice.injEq] at e1
    obtain ⟨rfl, -, rfl⟩ := e1
    exact h hnc hcm (.inr ⟨_, rfl⟩) Δ V O w0 a w r
theorem Src.cut {x : Operand} (q : Nat) {b off n cap l h : Nat} {cells news : List AV} (hx : ρ x = .x (.slice (if cap = l then some ⟨b, off, none⟩ else some ⟨b, off + l * 1, none⟩) (h - l) (cap - l))) (hq : H[q]? = some (.box b cells)) (h1 : l ≤ h) (h2 : h ≤ cap) (h3 : cap ≤ maxLen) (h4 : news = (cells.drop (off + l)).take (h - l)) : Src ρ H x (h - l) news := by
  by_cases hc : cap = l
  · rw [if_pos hc] at hx
    refine Src.part q hx hq (by omega) (by omega) ?_
    rw [h4, show h - l = 0 by omega, List.take_zero, List.take_zero]
  · rw [if_neg hc, Nat.mul_one] at hx
    exact Src.part q hx hq (by omega) (by omega) h4
end
section
variable {P : Program} {H : List Hp} {T : List AV} {o : Oper} {ops : Array Oper} {Q : Post}
end
end Go.Proofs.YtkhhlmonhapmaaaGreatDoor
