import Derived.Test.YtdcjhndcklofoaaW11
/- A walk over symbolic memory: tests against nil, appends to a part of a row. No program in sight. -/
namespace Go.Proofs.Ytdcjhndcklofoaa
open Go.RowKit
set_option linter.unusedSimpArgs false
set_option linter.unusedVariables false
section
variable {P : Program} {V O : Nat → Prop} {w0 w w' : World} {H H' D : List Hp} {T T' : List AV} {a : Act} {o : Oper} {K : List AV → List Hp → Prop} {ρ : Operand → AV} {ops : Array Oper} {Q : Post} {F : Nat → Prop}
/-- A slice with elements is not nil. -/
theorem Evl_eqnil_sq (x : Operand) (t t2 e : TypeId) (size n : Nat) (cells : List AV) (ht : elT P t = some (e, size)) (ho : o.op = .binOp .eql t x (.const (.slice none 0 0)) t2) (hx : ρ x = .sq n cells) (hn : 0 < n) : Evl P o ρ H (.x (.bool false)) := by
  intro V a w Kc Q r hKc
  have hd := r.ops x (by simp [ho, Op.operands])
  rw [hx, Den] at hd
  obtain ⟨ad, cap, vals, hv, h2, h3, h4, h5⟩ := hd
  cases ad with
  | none => have := h4 rfl; omega
  | some ad =>
    unfold Oper.wp
    have hrun : (execOp a.eval o).run P w = .ok (.value (.bool false)) w := by
      simp only [execOp, ho]
      rw [hv]
      have key : ∀ d, (Op.equalIn (d + 1) t (.slice (some ad) n cap) (.slice none 0 0)).run P w = .ok false w := by
        intro d
        rw [Op.equalIn]
        simp [run_underlying (under_of_elT ht)]
      simp [Act.eval, eqGuard, binOp, Op.equal, go_sem]
      rw [show Op.maxDepth = (Op.maxDepth - 1) + 1 from rfl, key]
      rfl
    rw [hrun]
    exact hKc _ _ (Below.refl _ _) (by rw [Den])
/-- 'append(s, x...)', s behind the head of a block of the call's own, and there is room. -/
theorem run_append_room_at (w : World) (t ty e : TypeId) (i : TypeInfo) (ht : P.underlying t = some (.slice e)) (hi : P.info? e = some i)
    (g off sLen sCap : Nat) (cur : Array Value) (hg : w.heap[g]? = some (.cells cur e (0, 0)))
    (a : Addr) (m c : Nat) (news : List Value) (hl : news.length = m * i.size) (hnews : ∀ j u, news[j]? = some u → w.cell? (a.add j) = some u) (h1 : ∀ u ∈ news, u.oneCell' = true)
    (hroom : sLen + m ≤ sCap) (hfit : off + sLen * i.size + news.length ≤ cur.size) :
    (Builtin.append_ #[t, t] ty #[.slice (some ⟨g, off, none⟩) sLen sCap, .slice (some a) m c]).run P w =
      .ok (.slice (some ⟨g, off, none⟩) (sLen + m) sCap) (w.setRow g (cur.toList.take (off + sLen * i.size) ++ news ++ cur.toList.drop (off + sLen * i.size + news.length)).toArray) := by
  have hf := run_firstCells_some (P := P) w i.size m a m c news hl hnews
  have hst := run_storeCells_at P g (off + sLen * i.size) e news 0 cur w hg (by simpa using hfit) h1
  simp only [Nat.add_zero] at hst
  simp [Builtin.append_, run_underlying ht, sizeOf, typeInfo, hi, Builtin.lenOf, hroom, hf, add_none, hst]
theorem Stp_append_off (p : Nat) (s x : Operand) (t e : TypeId) (z : Value) (size bytes b off n c N cap m : Nat) (cells news : List AV) (ho : o.op = .call { callee := .builtin .append, args := #[s, x], argTypes := #[t, t] }) (hs : ev T s = .x (.slice (some ⟨b, off, none⟩) n c)) (hp : H[p]? = some (.row (some ⟨b, 0, none⟩) N cap e size cells))
    (hN : n ≤ N) (hc : (off = (N - n) * size ∧ N - n + c = cap) ∨ (n = 0 ∧ c = 0)) (hm : 0 < m)
    (hx : Src (ev T) H x m news) (hE : ElemAt P t e z size bytes) (hl : news.length = m * size) (hf : Fits (n + m) bytes)
    (hK1 : n + m ≤ c → N - n + c = cap → off = (N - n) * size → K (putT T o.dst (.x (.slice (some ⟨b, off, none⟩) (n + m) c))) (H.set p (.row (some ⟨b, 0, none⟩) (N + m) cap e size (cells ++ news))))
    (hK2 : ∀ b' cap', K (putT T o.dst (.x (.slice (some ⟨b', 0, none⟩) (n + m) cap'))) (H.set p (.row (some ⟨b', 0, none⟩) (n + m) cap' e size (cells.drop ((N - n) * size) ++ news)))) : Stp P o T H K := by
  intro V O w0 a w Kc Q r hKc
  obtain ⟨vals, hd, hown, h1⟩ := r.hp p _ hp
  obtain ⟨ad2, cap2, vals2, hv2, hn2, hc2, h02, hd2, h12, hm2⟩ := (r.oks o).src (by simp [ho, Op.operands, Call.operands]) hx
  obtain ⟨i, hi, hz, hsize, hby⟩ := info_parts hE.info
  obtain ⟨hlen, hn | ⟨g, capx, cur, e1, hbg, hg, hnc, hcm, hcs, htake⟩⟩ := hown
  · cases hn.1
  simp only [Value.slice.injEq, Option.some.injEq, Addr.mk.injEq] at e1
  obtain ⟨⟨rfl, -, -⟩, -, rfl⟩ := e1
  have hl2 : vals2.length = m * size := by rw [hd2.len, hl]
  cases ad2 with
  | none => have := h02 rfl; omega
  | some a2 =>
  have hnews : ∀ j u, vals2[j]? = some u → w.cell? (a2.add j) = some u := fun j u hj => by
    rcases hm2 with rfl | ⟨b3, o3, e3, hcc⟩
    · simp at hj
    · cases e3; rw [add_none]; exact hcc j u hj
  have hmm : n + m ≤ maxLen := hf.2
  have hbig : n + m ≤ 9223372036854775807 := by simp only [maxLen] at hmm; omega
  unfold Oper.wp execOp
  simp only [ho, resolve, invoke, builtin, Sem.run_bind, Sem.run_pure, Result.andThen_ok, List.map_toArray, List.map_cons, List.map_nil, r.evx hs, hv2]
  by_cases hroom : n + m ≤ c
  · rcases hc with ⟨ho1, hc1⟩ | ⟨h0, h00⟩
    · have hoff : off + n * size = N * size := by rw [ho1, ← Nat.add_mul]; congr 1; omega
      have hfit : off + n * i.size + vals2.length ≤ cur.size := by
        rw [hsize, hoff, hl2, hcs, ← Nat.add_mul]; exact Nat.mul_le_mul_right _ (by omega)
      have hr := run_append_room_at (P := P) w t o.type e i hE.under hi b off n c cur hg a2 m cap2 vals2 (by rw [hl2, hsize]) hnews h12 hroom hfit
      rw [hr]
      simp only [Oper.upon]
      have hlenv : (vals ++ vals2).length = (N + m) * size := by rw [List.length_append, hlen, hl2, Nat.add_mul]
      refine hKc _ _ _ _ (hK1 hroom hc1 ho1) (Rel.put (Rel.turnAt (w' := w.setRow b (cur.toList.take (off + n * i.size) ++ vals2 ++ cur.toList.drop (off + n * i.size + vals2.length)).toArray) (y := .row (some ⟨b, 0, none⟩) (N + m) cap e size (cells ++ news)) r p hp rfl rfl rfl (by simp) (fun k hk hn => setRow_other w b k _ (fun e => hn (by rw [e]; rfl))) (fun k hk => ⟨by simp [Hp.blk] at hk; subst hk; simpa using (Array.getElem?_eq_some_iff.1 hg).1, .inl hk⟩) ?_) _ (by rw [Den]))
      have hF : ∀ k, FB V (H.set p (.row (some ⟨b, 0, none⟩) (N + m) cap e size (cells ++ news))) k → FB V H k ∨ w.heap.size ≤ k := by
        intro k hk
        rcases hk with hk | ⟨y, hy, e⟩
        · exact .inl (.inl hk)
        · rcases List.mem_or_eq_of_mem_set hy with hy | rfl
          · exact .inl (.inr ⟨y, hy, e⟩)
          · exact .inl (.inr ⟨_, List.mem_of_getElem? hp, e⟩)
      have hw' : ∀ k, k < w.heap.size → ¬ FB V H k → (w.setRow b (cur.toList.take (off + n * i.size) ++ vals2 ++ cur.toList.drop (off + n * i.size + vals2.length)).toArray).heap[k]? = w.heap[k]? := fun k hk hn => setRow_other w b k _ (fun e => hn (.inr ⟨_, List.mem_of_getElem? hp, by rw [e]; rfl⟩))
      refine ⟨vals ++ vals2, (DenL.conv hF hw' _ _ hd).app (DenL.conv hF hw' _ _ hd2), ⟨hlenv, .inr ⟨b, cap, _, rfl, hbg, setRow_heap w b cur _ e _ hg, by omega, hcm, ?_, ?_⟩⟩, fun u hu => by
        rcases List.mem_append.1 hu with h | h
        · exact h1 u h
        · exact h12 u h⟩
      · simp only [List.size_toArray, List.length_append, List.length_take, List.length_drop, Array.length_toList]
        omega
      · rw [hsize, hoff, htake, ← hlenv]
        exact List.take_left
    · omega
  · have hdl : (vals.drop ((N - n) * size)).length = n * size := by rw [List.length_drop, hlen, ← Nat.sub_mul]; congr 1; omega
    have holds : ∀ j u, (vals.drop ((N - n) * size))[j]? = some u → w.cell? ((⟨b, off, none⟩ : Addr).add j) = some u := by
      intro j u hj
      rcases hc with ⟨ho1, hc1⟩ | ⟨h0, h00⟩
      · rw [List.getElem?_drop] at hj
        rw [add_none, ho1, cell_of_row w b _ cur e (0, 0) hg]
        rw [← htake, List.getElem?_take] at hj
        split at hj
        · simpa using hj
        · cases hj
      · have : (vals.drop ((N - n) * size)) = [] := List.eq_nil_of_length_eq_zero (by rw [hdl, h0, Nat.zero_mul])
        rw [this] at hj; simp at hj
    have hr := run_append_grow (P := P) (w := w) t o.type e i z hE.under hi hz ⟨b, off, none⟩ n c (vals.drop ((N - n) * size)) (by rw [hdl, hsize]) holds a2 m cap2 vals2 (by rw [hl2, hsize]) hnews (by omega) (by omega) (growslice_fits (by omega) (by rw [hby]; exact hf.1))
    rw [hr]
    simp only [Oper.upon]
    have hge := grownCap_ge w (n + m) c e
    have hcm2 : grownCap w (n + m) c e ≤ maxLen := grownCap_le_maxLen w (n + m) c e hmm
    have hlenv : (vals.drop ((N - n) * size) ++ vals2).length = (n + m) * size := by rw [List.length_append, hdl, hl2, Nat.add_mul]
    refine hKc _ _ _ _ (hK2 w.heap.size (grownCap w (n + m) c e)) (Rel.put (Rel.turnAt (w' := w.drew.alloc (.cells ((vals.drop ((N - n) * size)).toArray ++ vals2.toArray ++ Builtin.zeroCells z.cells (grownCap w (n + m) c e - (n + m))) e)) (y := .row (some ⟨w.heap.size, 0, none⟩) (n + m) (grownCap w (n + m) c e) e size (cells.drop ((N - n) * size) ++ news)) r p hp rfl rfl rfl (by simp) (fun k hk hn => heap_alloc_old w.drew _ (by simpa using hk)) (fun k hk => ⟨by simp [Hp.blk] at hk; subst hk; simp, .inr (by simp [Hp.blk] at hk; omega)⟩) ?_) _ (by rw [Den]))
    have hF : ∀ k, FB V (H.set p (.row (some ⟨w.heap.size, 0, none⟩) (n + m) (grownCap w (n + m) c e) e size (cells.drop ((N - n) * size) ++ news))) k → FB V H k ∨ w.heap.size ≤ k := by
      intro k hk
      rcases hk with hk | ⟨y, hy, e⟩
      · exact .inl (.inl hk)
      · rcases List.mem_or_eq_of_mem_set hy with hy | rfl
        · exact .inl (.inr ⟨y, hy, e⟩)
        · simp [Hp.blk] at e; exact .inr (by omega)
    refine ⟨vals.drop ((N - n) * size) ++ vals2, (DenL.conv hF (fun k hk _ => heap_alloc_old w.drew _ (by simpa using hk)) _ _ (hd.drop _)).app (DenL.conv hF (fun k hk _ => heap_alloc_old w.drew _ (by simpa using hk)) _ _ hd2), ⟨hlenv, .inr ⟨w.heap.size, _, _, rfl, Nat.zero_le _, heap_alloc_new w.drew _, hge, hcm2, ?_, ?_⟩⟩, fun u hu => by
      rcases List.mem_append.1 hu with h | h
      · exact h1 u (List.mem_of_mem_drop h)
      · exact h12 u h⟩
    · simp only [Array.size_append, List.size_toArray, size_zeroCells, hE.zs, hdl, hl2, ← Nat.add_mul]
      congr 1
      omega
    · simp only [Array.toList_append, List.append_assoc]
      rw [← List.append_assoc, ← hlenv]
      exact List.take_left
end
end Go.Proofs.Ytdcjhndcklofoaa
/- A walk over symbolic memory: the walk's rules, in bundles; where a block stands. No program in sight. -/
namespace Go.Proofs.Ytdcjhndcklofoaa
open Go.RowKit
set_option linter.unusedSimpArgs false
set_option linter.unusedVariables false
set_option linter.defProp false
/-! Where a block of the call's own stands. -/
class FBox (H : List Hp) (b : Nat) (p : outParam Nat) (cells : outParam (List AV)) : Prop where out : H[p]? = some (.box b cells)
instance {x : Hp} {H : List Hp} {b p : Nat} {cells : List AV} [h : FBox H b p cells] : FBox (x :: H) b (p + 1) cells := ⟨by simpa using h.out⟩
instance {H : List Hp} {b : Nat} {cells : List AV} : FBox (.box b cells :: H) b 0 cells := ⟨rfl⟩
class FRow (H : List Hp) (ad : Option Addr) (p n cap : outParam Nat) (e : outParam TypeId) (size : outParam Nat) (cells : outParam (List AV)) : Prop where out : H[p]? = some (.row ad n cap e size cells)
instance {x : Hp} {H : List Hp} {ad : Option Addr} {p n cap : Nat} {e : TypeId} {size : Nat} {cells : List AV} [h : FRow H ad p n cap e size cells] : FRow (x :: H) ad (p + 1) n cap e size cells := ⟨by simpa using h.out⟩
instance {H : List Hp} {ad : Option Addr} {n cap : Nat} {e : TypeId} {size : Nat} {cells : List AV} : FRow (.row ad n cap e size cells :: H) ad 0 n cap e size cells := ⟨rfl⟩
/-! The rules. -/
theorem ev_tmp (T : List AV) (t : Nat) : ev T (.tmp t) = T.getD t .top := rfl
theorem ev_const (T : List AV) (v : Value) : ev T (.const v) = .x v := rfl
theorem ev_global (T : List AV) (g : Nat) : ev T (.global g) = .x (.pointer (some ⟨g, 0, none⟩)) := rfl
theorem ev_func (T : List AV) (f : Nat) : ev T (.func f) = .x (.func (.func f) #[] #[]) := rfl
theorem evs_eq (T : List AV) (x : Operand) : evs T x = str (ev T x) := rfl
theorem str_g (v : AV) : str (.g true v) = v := rfl
theorem str_gf (v : AV) : str (.g false v) = .g false v := rfl
theorem str_x (v : Value) : str (.x v) = .x v := rfl
theorem str_top : str .top = .top := rfl
theorem str_sq (n : Nat) (l : List AV) : str (.sq n l) = .sq n l := rfl
theorem str_at (l : List AV) : str (.at_ l) = .at_ l := rfl
theorem str_agg (l : List AV) : str (.agg l) = .agg l := rfl
theorem str_tup (l : List AV) : str (.tup l) = .tup l := rfl
theorem str_ifc (t : TypeId) (v : AV) : str (.ifc t v) = .ifc t v := rfl
theorem putT_some (T : List AV) (d : Nat) (av : AV) : putT T (some d) av = T.set d av := rfl
theorem putT_none (T : List AV) (av : AV) : putT T none av = T := rfl
theorem val_x (v : Value) : AV.val (.x v) = v := rfl
theorem ldA_t (n : Nat) (l : List AV) : ldA true n l = mkA (l.take n) := rfl
theorem ldA_f (n : Nat) (l : List AV) : ldA false n l = l.getD 0 .top := rfl
theorem mkA_eq (l : List AV) : mkA l = if l.all AV.ex then .x (.agg (l.map AV.val).toArray) else .agg l := rfl
def wtb := And.intro ev_tmp (And.intro ev_const (And.intro ev_global (And.intro ev_func (And.intro evs_eq (And.intro str_g (And.intro str_gf (And.intro str_x (And.intro str_top (And.intro str_sq (And.intro str_at (And.intro str_agg (And.intro str_tup (And.intro str_ifc (And.intro putT_some (And.intro putT_none val_x)))))))))))))))
def wtc := And.intro cells_int (And.intro cells_bool (And.intro cells_string (And.intro cells_slice (And.intro cells_pointer (And.intro cells_nilIface (And.intro cells_iface (And.intro cells_func (And.intro cells_sq (And.intro cells_at (And.intro cells_ifc (And.intro cells_agg cells_aggx)))))))))))
def wtd := And.intro ldA_t (And.intro ldA_f (And.intro mkA_eq (And.intro ex_x (And.intro ex_sq (And.intro ex_at (And.intro ex_ifc (And.intro vc_int (And.intro vc_bool (And.intro vc_string (And.intro vc_slice (And.intro vc_agg (And.intro spl_succ spl_zero))))))))))))
def wte := And.intro (@Bool.and_false) (And.intro (@Bool.false_and) (And.intro (@Bool.and_true) (And.intro (@Bool.true_and) (And.intro Bool.false_eq_true (And.intro Bool.not_true (And.intro Bool.not_false Int.toNat_natCast))))))
def wtl := And.intro (@List.all_cons.{0}) (And.intro (@List.all_nil.{0}) (And.intro (@List.replicate_succ.{0}) (And.intro (@List.replicate_zero.{0}) (And.intro (@List.flatten_cons.{0}) (And.intro (@List.flatten_nil.{0}) (And.intro (@List.drop_nil.{0}) (And.intro (@List.set_cons_zero.{0}) (And.intro (@List.set_cons_succ.{0}) (And.intro (@List.getD_cons_zero.{0}) (And.intro (@List.getD_cons_succ.{0}) (And.intro (@List.nil_append.{0}) (And.intro (@List.cons_append.{0}) (And.intro (@List.append_nil.{0}) (And.intro (@List.drop_zero.{0}) (And.intro (@List.drop_succ_cons.{0}) (And.intro (@List.take_zero.{0}) (And.intro (@List.take_succ_cons.{0}) (And.intro (@List.map_cons.{0, 0}) (And.intro (@List.map_nil.{0, 0}) (And.intro (@List.length_cons.{0}) (And.intro (@List.length_nil.{0}) (And.intro Nat.zero_add (And.intro Nat.mul_one Nat.add_zero)))))))))))))))))))))))
def wtn := And.intro wtb (And.intro wtc (And.intro wtd (And.intro wte wtl)))
def won := And.intro one_x (And.intro one_sq (And.intro one_at one_ifc))
def wlq := And.intro wtb wtc
def whn := And.intro (@decide_eq_true_eq) (And.intro (@decide_eq_false_iff_not) (And.intro (@beq_iff_eq.{0}) (And.intro (@beq_eq_false_iff_ne.{0}) (And.intro (@bne_iff_ne.{0}) (And.intro (@bne_eq_false_iff_eq.{0}) (And.intro (@Bool.not_eq_true) (And.intro (@Bool.not_eq_false) (And.intro (@Bool.not_eq_true') (And.intro (@Bool.not_eq_false') (And.intro Bool.not_true (And.intro Bool.not_false (And.intro (@Bool.and_eq_true) (And.intro (@Bool.or_eq_true) (And.intro (@Bool.and_eq_false_iff) (And.intro (@Bool.or_eq_false_iff) (@ne_eq.{1}))))))))))))))))
end Go.Proofs.Ytdcjhndcklofoaa
