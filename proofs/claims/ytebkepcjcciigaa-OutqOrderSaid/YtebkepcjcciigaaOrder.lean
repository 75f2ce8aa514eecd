/- The law OutqOrder: its walk. -/
import Derived.Test.YtebkepcjcciigaaDeck2
import Derived.Test.YtebkepcjcciigaaOutq
import Derived.Test.YtebkepcjcciigaaMore2
namespace Go.Proofs.Ytebkepcjcciigaa
open Go.RowKit
set_option linter.unusedSimpArgs false
set_option linter.unusedVariables false
/-- What the law's loop keeps: the deck, the queue in block b + 1, the two rows of bytes; what lies apart. -/
structure Sq (w1 w : World) (b : Nat) (r : List Int) (lim rs : Int) (qd : List UInt8) (da : Option Addr) (dc : Nat) (al : List UInt8) (aa : Option Addr) (ac : Nat) (tk : List UInt8) (ta : Option Addr) (tc : Nat) : Prop where
  dk : Dk w1 w b r
  c0 : w.cell? ⟨b + 1, 0, none⟩ = some (.int .i64 lim)
  c1 : w.cell? ⟨b + 1, 1, none⟩ = some (.slice da qd.length dc)
  c2 : w.cell? ⟨b + 1, 2, none⟩ = some (.int .i64 rs)
  fz : ∀ o, w.frozen? ⟨b + 1, o, none⟩ = false
  bs : Bs (b + 2) w (.slice da qd.length dc) qd
  oa : Ob (b + 2) 5 w (.slice aa al.length ac) al
  ot : Ob (b + 2) 5 w (.slice ta tk.length tc) tk
  d1 : ∀ x y, aa = some x → ta = some y → x.block ≠ y.block
  d2 : qd ≠ [] → ∀ x, da = some x → (∀ y, aa = some y → y.block ≠ x.block) ∧ ∀ y, ta = some y → y.block ≠ x.block
theorem Dx.cellNe {b : Nat} {w w1 : World} (h : Dx b w w1) {k o : Nat} (hk : k ≠ b) {v : Value} (hv : w.cell? ⟨k, o, none⟩ = some v) : w1.cell? ⟨k, o, none⟩ = some v := by
  have hlt := World.block_lt_of_cell? w _ hv
  obtain ⟨u, t, d, rfl⟩ := h
  rw [cell?_ext _ _ (by simpa using hlt), ← hv]
  exact World.cell?_of_block (Below.heap_setCell _ _ _ _ (by simpa using hk))
theorem Dx.frozenNe {b : Nat} {w w1 : World} (h : Dx b w w1) {k o : Nat} (hk : k ≠ b) (hlt : k < w.heap.size) : w1.frozen? ⟨k, o, none⟩ = w.frozen? ⟨k, o, none⟩ := by
  obtain ⟨u, t, d, rfl⟩ := h
  rw [frozen?_ext _ _ (by simpa using hlt)]
  exact World.frozen?_of_block (Below.heap_setCell _ _ _ _ (by simpa using hk))
theorem Dx.box {b : Nat} {W w1 : World} {C : Array Value} {T : TypeId} (h : Dx b (W.alloc (.cells C T)).drew w1) (hb : b < W.heap.size) : W.heap.size < w1.heap.size ∧ (∀ o, w1.frozen? ⟨W.heap.size, o, none⟩ = false) ∧ ∀ o v, C[o]? = some v → w1.cell? ⟨W.heap.size, o, none⟩ = some v := by
  refine ⟨Nat.lt_of_lt_of_le (by simp) h.size, fun o => ?_, fun o v hv => ?_⟩
  · rw [h.frozenNe (by omega) (by simp)]; simp
  · exact h.cellNe (by omega) (by simpa using hv)
theorem Sq.lt {w1 w : World} {b : Nat} {r : List Int} {lim rs : Int} {qd al tk : List UInt8} {da aa ta : Option Addr} {dc ac tc : Nat} (h : Sq w1 w b r lim rs qd da dc al aa ac tk ta tc) : b + 1 < w.heap.size := World.block_lt_of_cell? w _ h.c0
theorem Sq.ext {w1 w w' : World} {b : Nat} {r : List Int} {lim rs : Int} {qd al tk : List UInt8} {da aa ta : Option Addr} {dc ac tc : Nat} (h : Sq w1 w b r lim rs qd da dc al aa ac tk ta tc) (hb : Ext w w') : Sq w1 w' b r lim rs qd da dc al aa ac tk ta tc :=
  ⟨h.dk.mono hb, hb.cv h.c0, hb.cv h.c1, hb.cv h.c2, fun o => hb.fz h.lt (h.fz o), h.bs.mono hb, h.oa.mono hb, h.ot.mono hb, h.d1, h.d2⟩
theorem Sq.step {w1 w w' : World} {b : Nat} {r r' : List Int} {lim rs : Int} {qd al tk : List UInt8} {da aa ta : Option Addr} {dc ac tc : Nat} (h : Sq w1 w b r lim rs qd da dc al aa ac tk ta tc) (hd : Dk w1 w' b r') (hx : Dx b w w') : Sq w1 w' b r' lim rs qd da dc al aa ac tk ta tc := by
  have hg := hx.agree (lo := b + 2) (by omega) (Nat.le_refl _)
  exact ⟨hd, hx.cellNe (by omega) h.c0, hx.cellNe (by omega) h.c1, hx.cellNe (by omega) h.c2, fun o => (hx.frozenNe (by omega) h.lt).trans (h.fz o), h.bs.agree hg, h.oa.agree hg, h.ot.agree hg, h.d1, h.d2⟩
theorem ext_old_alloc (w : World) (o : Obj) (k : Nat) (hk : k < w.heap.size) : (w.alloc o).heap[k]? = w.heap[k]? := (Ext.al w o).block k hk
theorem Dk.low {w0 w w' : World} {b : Nat} {r : List Int} (h : Dk w0 w b r) (hb : Below (b + 1) w w') : Dk w0 w' b r := by
  obtain ⟨lv, l, k, h0, h1, h2, h3, h4, h5, h6, h7, h8⟩ := h
  exact ⟨lv, l, k, h0, h1, h2, h3.trans (hb.mono (by omega)), h4, (hb.cell (p := ⟨b, 0, none⟩) (Nat.lt_succ_self b)).trans h5, (hb.cell (p := ⟨b, 1, none⟩) (Nat.lt_succ_self b)).trans h6, fun o => (hb.frozen (p := ⟨b, o, none⟩) (Nat.lt_succ_self b)).trans (h7 o), h8⟩
theorem Sq.go {w1 w w' : World} {b : Nat} {r r' : List Int} {lim rs : Int} {qd al tk : List UInt8} {da aa ta : Option Addr} {dc ac tc : Nat} (h : Sq w1 w b r lim rs qd da dc al aa ac tk ta tc) (hd : Dk w1 w' b r') (hg : Agree (b + 1) w.heap.size w w') : Sq w1 w' b r' lim rs qd da dc al aa ac tk ta tc := by
  have hg2 : Agree (b + 2) w.heap.size w w' := hg.mono (by omega) (Nat.le_refl _)
  have hc := hg (b + 1) (Nat.le_refl _) h.lt
  exact ⟨hd, (World.cell?_of_block hc).trans h.c0, (World.cell?_of_block hc).trans h.c1, (World.cell?_of_block hc).trans h.c2, fun o => (World.frozen?_of_block hc).trans (h.fz o), h.bs.agree hg2, h.oa.agree hg2, h.ot.agree hg2, h.d1, h.d2⟩
/-- A row that lies apart from 'all' and 'taken'. -/
def Ap (b : Nat) (w : World) (aa ta : Option Addr) (ad : Option Addr) (n c : Nat) (l : List UInt8) : Prop :=
  ∃ lo, b + 2 ≤ lo ∧ (∀ y, aa = some y → y.block < lo) ∧ (∀ y, ta = some y → y.block < lo) ∧ Bs lo w (.slice ad n c) l
theorem Ap.bs {b : Nat} {w : World} {aa ta ad : Option Addr} {n c : Nat} {l : List UInt8} (h : Ap b w aa ta ad n c l) : Bs (b + 2) w (.slice ad n c) l := by
  obtain ⟨lo, h1, _, _, h4⟩ := h; exact h4.weak h1
theorem Ap.ext {b : Nat} {w w' : World} {aa ta ad : Option Addr} {n c : Nat} {l : List UInt8} (h : Ap b w aa ta ad n c l) (k : Ext w w') : Ap b w' aa ta ad n c l := by
  obtain ⟨lo, h1, h2, h3, h4⟩ := h; exact ⟨lo, h1, h2, h3, h4.mono k⟩
theorem Ap.step {b : Nat} {w w1 w' : World} {aa ta ad : Option Addr} {n c : Nat} {l : List UInt8} (h : Ap b w aa ta ad n c l) (k : Ext w w1) (hx : Dx b w1 w') : Ap b w' aa ta ad n c l := by
  obtain ⟨lo, h1, h2, h3, h4⟩ := h; exact ⟨lo, h1, h2, h3, (h4.mono k).agree (hx.agree (by omega) (Nat.le_refl _))⟩
theorem Sq.took {w1 w w' : World} {b : Nat} {r : List Int} {lim rs : Int} {qd al tk : List UInt8} {da aa ta : Option Addr} {dc ac tc : Nat} (h : Sq w1 w b r lim rs qd da dc al aa ac tk ta tc) {qd' tk' : List UInt8} {a1 at1 : Option Addr} {p1 tc1 : Nat} (hA : Ap b w aa ta a1 qd'.length p1 qd')
    (hbel : Below (b + 1) w w') (hE : ∀ k, k < w.heap.size → k ≠ b + 1 → (∀ y, ta = some y → y.block ≠ k) → w'.heap[k]? = w.heap[k]?)
    (c0 : w'.cell? ⟨b + 1, 0, none⟩ = some (.int .i64 lim)) (c1 : w'.cell? ⟨b + 1, 1, none⟩ = some (.slice a1 qd'.length p1)) (c2 : w'.cell? ⟨b + 1, 2, none⟩ = some (.int .i64 rs)) (fz : ∀ o, w'.frozen? ⟨b + 1, o, none⟩ = false)
    (ho : Ob (b + 2) 5 w' (.slice at1 tk'.length tc1) tk') (hat : ∀ x, at1 = some x → (∃ y, ta = some y ∧ y.block = x.block) ∨ x.block = w.heap.size) : Sq w1 w' b r lim rs qd' a1 p1 al aa ac tk' at1 tc1 := by
  obtain ⟨lo, l1, l2, l3, l4⟩ := hA
  refine ⟨h.dk.low hbel, c0, c1, c2, fz, (l4.weak l1).blk fun hne x hx => ?_, h.oa.blk fun x hx => ?_, ho, fun x y hx hy => ?_, fun hne x hx => ⟨fun y hy => ?_, fun y hy => ?_⟩⟩
  · have := l4.lt hne x hx
    exact hE _ this.2 (by omega) fun y hy => by have := l3 y hy; omega
  · have h1 := h.oa.lt x hx
    have h2 := World.ownsRow.lt h.oa x.block (by rw [hx]; rfl)
    exact hE _ h1 (by omega) fun y hy => (h.d1 x y hx hy).symm
  · rcases hat y hy with ⟨z, hz, e⟩ | e
    · rw [← e]; exact h.d1 x z hx hz
    · have h1 := h.oa.lt x hx; omega
  · have := l4.lt hne x hx
    have := l2 y hy; omega
  · have h1 := l4.lt hne x hx
    rcases hat y hy with ⟨z, hz, e⟩ | e
    · have := l3 z hz; omega
    · omega
theorem Sq.pushed {w1 w w' : World} {b : Nat} {r : List Int} {lim rs : Int} {qd al tk : List UInt8} {da aa ta : Option Addr} {dc ac tc : Nat} (h : Sq w1 w b r lim rs qd da dc al aa ac tk ta tc) {rs' : Int} {qd' al' tk' : List UInt8} {a3 aN ta' : Option Addr} {p3 cN tc' : Nat} (hA : Ap b w aa ta a3 qd'.length p3 qd')
    (hbel : Below (b + 1) w w') (hE : ∀ k, k < w.heap.size → k ≠ b + 1 → (∀ y, aa = some y → y.block ≠ k) → w'.heap[k]? = w.heap[k]?)
    (c0 : w'.cell? ⟨b + 1, 0, none⟩ = some (.int .i64 lim)) (c1 : w'.cell? ⟨b + 1, 1, none⟩ = some (.slice a3 qd'.length p3)) (c2 : w'.cell? ⟨b + 1, 2, none⟩ = some (.int .i64 rs')) (fz : ∀ o, w'.frozen? ⟨b + 1, o, none⟩ = false)
    (ho : Ob (b + 2) 5 w' (.slice aN al'.length cN) al') (hat : ∀ x, aN = some x → (∃ y, aa = some y ∧ y.block = x.block) ∨ w.heap.size ≤ x.block)
    (ht : (ta' = ta ∧ tk' = tk ∧ tc' = tc) ∨ (ta' = none ∧ tk' = [] ∧ tc' = 0)) : Sq w1 w' b r lim rs' qd' a3 p3 al' aN cN tk' ta' tc' := by
  obtain ⟨lo, l1, l2, l3, l4⟩ := hA
  have hta : ∀ x, ta' = some x → ta = some x := by
    rcases ht with ⟨rfl, _⟩ | ⟨rfl, _⟩
    · exact fun x h => h
    · intro x h; cases h
  have hot : Ob (b + 2) 5 w' (.slice ta' tk'.length tc') tk' := by
    rcases ht with ⟨rfl, rfl, rfl⟩ | ⟨rfl, rfl, rfl⟩
    · refine h.ot.blk fun x hx => ?_
      have h2 := World.ownsRow.lt h.ot x.block (by rw [hx]; rfl)
      exact hE _ h2.2 (by omega) fun y hy => h.d1 y x hy hx
    · exact Ob.nil _ _ _
  refine ⟨h.dk.low hbel, c0, c1, c2, fz, (l4.weak l1).blk fun hne x hx => ?_, ho, hot, fun x y hx hy => ?_, fun hne x hx => ⟨fun y hy => ?_, fun y hy => ?_⟩⟩
  · have := l4.lt hne x hx
    exact hE _ this.2 (by omega) fun y hy => by have := l2 y hy; omega
  · have h1 := h.ot.lt y (hta y hy)
    rcases hat x hx with ⟨z, hz, e⟩ | e
    · rw [← e]; exact h.d1 z y hz (hta y hy)
    · omega
  · have h1 := l4.lt hne x hx
    rcases hat y hy with ⟨z, hz, e⟩ | e
    · have := l2 z hz; omega
    · omega
  · have := l4.lt hne x hx
    have := l3 y (hta y hy); omega
set_option maxRecDepth 100000 in
set_option maxHeartbeats 8000000 in
theorem order_walk (lv : Value) (l : List Int) (limit : Int) (w : World) (hv : Is 0 w lv l) (hi : I64s l) (hn : -9223372036854775808 ≤ limit) (hn2 : limit ≤ 9223372036854775807) (hlen : l.length ≤ 140737488355328) :
    Calls Try.prog 3 #[lv, .int .i64 limit] w fun e w' => e = .returned (.bool true) ∧ Ext w w' := by
  obtain ⟨ad, cap, rfl, hcap⟩ := hv.shape
  have hV := Lib.hid hv
  clear hv
  go_enter Try.func3, Try.ntmps3
  go_wp2_with fail
  refine Calls.mono (sane29 _) ?_
  rintro e w1 ⟨rfl, hb⟩
  have hV1 := Lib.hid (hV.out.mono hb)
  go_wp2_with fail
  refine Calls.mono (few_any 0 _ l _ hV1.out) ?_
  rintro e w2 ⟨rfl, rfl⟩
  by_cases h200 : l.length ≤ 200
  · rw [decide_eq_true h200]
    go_wp2_with fail
    refine Calls.mono (new_any 0 _ l _ hV1.out hi (by omega)) ?_
    rintro e w3 ⟨rfl, hD, hsz⟩
    obtain ⟨b, hb1⟩ : ∃ b, w2.heap.size = b := ⟨_, rfl⟩
    rw [hb1] at hD hsz ⊢
    go_wp2_with fail
    refine Calls.mono (mod_any limit 30 _ (by decide) (by decide) hn hn2) ?_
    rintro e w4 ⟨rfl, rfl⟩
    have hm : 0 ≤ limit % 30 ∧ limit % 30 < 30 := by omega
    generalize limit % 30 = lim at hm
    go_wp2_with fail
    have hold : Ext w w3 := hb.tr hD.old
    go_loopg [7, 8] l.length (fun g a t wr => ∃ (r : List Int) (rs : Int) (qd al tk : List UInt8) (da aa ta : Option Addr) (dc ac tc : Nat), a = .slice aa al.length ac ∧ t = .slice ta tk.length tc ∧ Hid (Sq w2 wr b r lim rs qd da dc al aa ac tk ta tc) ∧ g = r.length ∧ Hid (al = tk ++ qd) ∧ al.length + 20 * r.length ≤ 4000 ∧ 0 ≤ rs ∧ rs + r.length ≤ 200)
    case atStart =>
      refine ⟨l, 0, [], [], [], none, none, none, 0, 0, 0, rfl, rfl, Lib.hid ⟨?_, ?_, ?_, ?_, ?_, Bs.nil _ _, Ob.nil _ _ _, Ob.nil _ _ _, (by intro x y h; cases h), (by intro h; exact absurd rfl h)⟩, rfl, Lib.hid rfl, by simp; omega, by decide, by omega⟩
      · exact hD.mono (by repeat (first | (with_reducible exact Below.refl _ _) | (with_reducible assumption) | (with_reducible refine Below.ext ?_ (by first | omega | (simp; done) | (simp; omega)) _ _) | (with_reducible refine Below.alloc ?_ (by first | omega | (simp; done) | (simp; omega)) _) | (with_reducible refine Below.setCell ?_ (by first | omega | (simp; done) | (simp; omega)) _) | (with_reducible refine Below.drew ?_) | (with_reducible refine Below.drewN ?_ _)))
      · simp [go_sem, hsz]
      · simp [go_sem, hsz]
      · simp [go_sem, hsz]
      · intro o; simp [go_sem, hsz]
    case round =>
      obtain ⟨r, rs, qd, al, tk, da, aa, ta, dc, ac, tc, rfl, rfl, hS, rfl, hal, hb1, hb2, hb3⟩ := hrel
      have hdk := hS.out.dk
      cases r with
      | nil =>
        go_wp2_with fail
        refine Calls.mono (left_any w2 b [] wr hdk) ?_
        rintro e w5 ⟨rfl, n, hw5⟩
        have hS5 := hS.out.ext (show Ext wr w5 by rw [hw5]; exact (by repeat (first | (with_reducible exact Below.refl _ _) | (with_reducible assumption) | (with_reducible refine Below.ext ?_ (by first | omega | (simp; done) | (simp; omega)) _ _) | (with_reducible refine Below.alloc ?_ (by first | omega | (simp; done) | (simp; omega)) _) | (with_reducible refine Below.setCell ?_ (by first | omega | (simp; done) | (simp; omega)) _) | (with_reducible refine Below.drew ?_) | (with_reducible refine Below.drewN ?_ _))))
        clear hw5 hS hdk
        simp only [List.isEmpty_nil, Bool.not_true]
        have c1 := hS5.c1
        have cv1 := run_string_bs (P := Try.prog) w5 _ _ _ _ _ _ Try.underlying28 Try.underlying5 Try.underlying9 hS5.oa.bs
        have cv2 := run_string_bs (P := Try.prog) w5 _ _ _ _ _ _ Try.underlying28 Try.underlying5 Try.underlying9 hS5.ot.bs
        have cv3 := run_string_bs (P := Try.prog) w5 _ _ _ _ _ _ Try.underlying28 Try.underlying5 Try.underlying9 hS5.bs
        have hE5 := Lib.hid (hb.tr hS5.dk.old)
        clear hS5
        have hlen1 : tk.length ≤ 4000 ∧ qd.length ≤ 4000 := by have := congrArg List.length hal.out; simp only [List.length_append] at this; omega
        obtain ⟨hlen1, hlen2⟩ := hlen1
        go_wp2_with fail
        go_ret
        exact ⟨by simp [Act.put, hal.out], hE5.out⟩
      | cons x r =>
        go_wp2_with fail
        refine Calls.mono (left_any w2 b (x :: r) wr hdk) ?_
        rintro e w5 ⟨rfl, n, hw5⟩
        have hS5 := hS.out.ext (show Ext wr w5 by rw [hw5]; exact (by repeat (first | (with_reducible exact Below.refl _ _) | (with_reducible assumption) | (with_reducible refine Below.ext ?_ (by first | omega | (simp; done) | (simp; omega)) _ _) | (with_reducible refine Below.alloc ?_ (by first | omega | (simp; done) | (simp; omega)) _) | (with_reducible refine Below.setCell ?_ (by first | omega | (simp; done) | (simp; omega)) _) | (with_reducible refine Below.drew ?_) | (with_reducible refine Below.drewN ?_ _))))
        clear hw5 hS hdk
        simp only [List.isEmpty_cons, Bool.not_false]
        go_wp2_with fail
        refine Calls.mono (next_any w2 b (x :: r) 3 w5 hS5.dk (by decide) (by decide)) ?_
        rintro e w6 ⟨rfl, hd6, hx6⟩
        have hS6 := hS5.step hd6 hx6
        simp only [List.tail_cons, List.length_cons] at *
        clear hS5 hd6 hx6
        by_cases h0 : nx (x :: r) 3 = 0
        · have hb0 : (nx (x :: r) 3 == 0) = true := by simpa using h0
          go_wp2_with fail
          have c0 := hS6.c0
          have c1 := hS6.c1
          have c2 := hS6.c2
          have hqd : qd.length ≤ 1000000 := by have := congrArg List.length hal.out; simp at this; omega
          have hlt6 := hS6.lt
          have hH6 := Lib.hid hS6
          clear hS6
          go_cut [9, 10] (fun p q wc => ∃ (n : Int) (B m n1 : Nat) (ab a1 : Option Addr) (cb p1 : Nat), p = .pointer (some ⟨B, 0, none⟩) ∧ q = .slice ab m cb ∧ m = (qd.take (Qu.cut ⟨lim, qd, rs⟩ n)).length ∧ n1 = (qd.drop (Qu.cut ⟨lim, qd, rs⟩ n)).length ∧ Hid (Sq w2 wc b r.tail lim rs qd da dc al aa ac tk ta tc) ∧ wc.cell? ⟨B, 0, none⟩ = some (.int .i64 lim) ∧ wc.cell? ⟨B, 1, none⟩ = some (.slice a1 n1 p1) ∧ wc.cell? ⟨B, 2, none⟩ = some (.int .i64 rs) ∧ b + 2 ≤ B ∧ B < wc.heap.size ∧ (∀ x, ta = some x → x.block ≠ B) ∧ Hid (Ap b wc aa ta a1 n1 p1 (qd.drop (Qu.cut ⟨lim, qd, rs⟩ n))) ∧ Hid (Bs (b + 2) wc (.slice ab m cb) (qd.take (Qu.cut ⟨lim, qd, rs⟩ n))))
          case first =>
            go_region_with (first
              | (go_at_call 11; refine Calls.mono (next_any w2 b r 12 _ (hH6.out.dk.mono (show Ext w6 _ from (by repeat (first | (with_reducible exact Below.refl _ _) | (with_reducible assumption) | (with_reducible refine Below.ext ?_ (by first | omega | (simp; done) | (simp; omega)) _ _) | (with_reducible refine Below.alloc ?_ (by first | omega | (simp; done) | (simp; omega)) _) | (with_reducible refine Below.setCell ?_ (by first | omega | (simp; done) | (simp; omega)) _) | (with_reducible refine Below.drew ?_) | (with_reducible refine Below.drewN ?_ _))))) (by decide) (by decide)) ?_; rintro e w7 ⟨rfl, hd7, hx7⟩; have hS7 := (hH6.out.ext (show Ext w6 _ from (by repeat (first | (with_reducible exact Below.refl _ _) | (with_reducible assumption) | (with_reducible refine Below.ext ?_ (by first | omega | (simp; done) | (simp; omega)) _ _) | (with_reducible refine Below.alloc ?_ (by first | omega | (simp; done) | (simp; omega)) _) | (with_reducible refine Below.setCell ?_ (by first | omega | (simp; done) | (simp; omega)) _) | (with_reducible refine Below.drew ?_) | (with_reducible refine Below.drewN ?_ _))))).step hd7 hx7; have c70 := hS7.c0; have c71 := hS7.c1; have c72 := hS7.c2; have hlt7 := hS7.lt; have hs7 : w6.heap.size ≤ w7.heap.size := Nat.le_trans (by simp) hx7.size; have hag : Agree (b + 1) w6.heap.size w6 w7 := Agree.trans (Agree.of_below (show Below w6.heap.size w6 _ from (by repeat (first | (with_reducible exact Below.refl _ _) | (with_reducible assumption) | (with_reducible refine Below.ext ?_ (by first | omega | (simp; done) | (simp; omega)) _ _) | (with_reducible refine Below.alloc ?_ (by first | omega | (simp; done) | (simp; omega)) _) | (with_reducible refine Below.setCell ?_ (by first | omega | (simp; done) | (simp; omega)) _) | (with_reducible refine Below.drew ?_) | (with_reducible refine Below.drewN ?_ _)))) (Nat.le_refl _)) (hx7.agree (by omega) (by simp)); (try (have hz := Dx.box hx7 (by omega); obtain ⟨z3, z4, z5⟩ := hz; have z50 := z5 0 _ rfl; have z51 := z5 1 _ rfl; have z52 := z5 2 _ rfl)))
              | (go_at_call 12; refine Calls.mono (take_any (b + 2) ⟨lim, qd, rs⟩ _ _ _ (IsQ.mk _ _ _ _ _ _ (hS7.bs.mono (by repeat (first | (with_reducible exact Below.refl _ _) | (with_reducible assumption) | (with_reducible refine Below.ext ?_ (by first | omega | (simp; done) | (simp; omega)) _ _) | (with_reducible refine Below.alloc ?_ (by first | omega | (simp; done) | (simp; omega)) _) | (with_reducible refine Below.setCell ?_ (by first | omega | (simp; done) | (simp; omega)) _) | (with_reducible refine Below.drew ?_) | (with_reducible refine Below.drewN ?_ _))))) hqd) ?_; rintro e w8 ⟨v', b', rfl, hq', hb', hx8⟩; obtain ⟨a1, p1, rfl, h1⟩ := hq'.fields; obtain ⟨ab, cb, rfl, _⟩ := hb'.shape; obtain ⟨t8, d8, rfl⟩ := hx8.form))
            all_goals
              go_wp2_with fail
              go_meet
              refine ⟨nx r 12, _, _, (Qu.rest ⟨lim, qd, rs⟩ (nx r 12)).data.length, _, a1, _, p1, rfl, rfl, by simp, rfl, Lib.hid ?_, ?_, ?_, ?_, ?_, ?_, ?_, Lib.hid ⟨w6.heap.size, by omega, fun y hy => hH6.out.oa.lt y hy, fun y hy => hH6.out.ot.lt y hy, ?_⟩, Lib.hid ?_⟩
              · refine hH6.out.go (hd7.low (by repeat (first | (with_reducible exact Below.refl _ _) | (with_reducible assumption) | (with_reducible refine Below.ext ?_ (by first | omega | (simp; done) | (simp; omega)) _ _) | (with_reducible refine Below.alloc ?_ (by first | omega | (simp; done) | (simp; omega)) _) | (with_reducible refine Below.setCell ?_ (by first | omega | (simp; done) | (simp; omega)) _) | (with_reducible refine Below.drew ?_) | (with_reducible refine Below.drewN ?_ _)))) (hag.trans ?_)
                exact Agree.of_below (by repeat (first | (with_reducible exact Below.refl _ _) | (with_reducible assumption) | (with_reducible refine Below.ext ?_ (by first | omega | (simp; done) | (simp; omega)) _ _) | (with_reducible refine Below.alloc ?_ (by first | omega | (simp; done) | (simp; omega)) _) | (with_reducible refine Below.setCell ?_ (by first | omega | (simp; done) | (simp; omega)) _) | (with_reducible refine Below.drew ?_) | (with_reducible refine Below.drewN ?_ _))) (Nat.le_refl _)
              · simp [go_sem, Qu.rest, *]
              · simp [go_sem, Qu.rest, *]
              · simp [go_sem, Qu.rest, *]
              · omega
              · exact (by first | omega | (simp; done) | (simp; omega))
              · intro x hx
                have := hH6.out.ot.lt x hx
                omega
              · simp only [Qu.rest] at h1 ⊢
                first | exact (h1.tail (by simp; done) (by simp; done)).weak (by first | omega | (simp; done) | (simp; omega)) | exact (h1.mono (by repeat (first | (with_reducible exact Below.refl _ _) | (with_reducible assumption) | (with_reducible refine Below.ext ?_ (by first | omega | (simp; done) | (simp; omega)) _ _) | (with_reducible refine Below.alloc ?_ (by first | omega | (simp; done) | (simp; omega)) _) | (with_reducible refine Below.setCell ?_ (by first | omega | (simp; done) | (simp; omega)) _) | (with_reducible refine Below.drew ?_) | (with_reducible refine Below.drewN ?_ _)))).weak (by first | omega | (simp; done) | (simp; omega))
              · rw [List.length_take] at hb'
                first | exact (hb'.tail (by simp; done) (by simp; done)).weak (by first | omega | (simp; done) | (simp; omega)) | exact (hb'.mono (by repeat (first | (with_reducible exact Below.refl _ _) | (with_reducible assumption) | (with_reducible refine Below.ext ?_ (by first | omega | (simp; done) | (simp; omega)) _ _) | (with_reducible refine Below.alloc ?_ (by first | omega | (simp; done) | (simp; omega)) _) | (with_reducible refine Below.setCell ?_ (by first | omega | (simp; done) | (simp; omega)) _) | (with_reducible refine Below.drew ?_) | (with_reducible refine Below.drewN ?_ _)))).weak (by first | omega | (simp; done) | (simp; omega))
          case rest =>
            obtain ⟨n, B, m, n1, ab, a1, cb, p1, rfl, rfl, hm', hn', hS9, d0, d1, d2, hB, hBlt, hBne, hd', hb'⟩ := hcut
            have e0 := hS9.out.c0
            have e1 := hS9.out.c1
            have e2 := hS9.out.c2
            have f0 := hS9.out.fz 0
            have f1 := hS9.out.fz 1
            have f2 := hS9.out.fz 2
            have hfz := Lib.hid hS9.out.fz
            have hlt9 := hS9.out.lt
            have hT := Lib.hid hS9.out.ot
            have hlen1 : tk.length ≤ 4000 ∧ qd.length ≤ 4000 := by have := congrArg List.length hal.out; simp only [List.length_append] at this; omega
            obtain ⟨hlen1, hlen2⟩ := hlen1
            have hmle : m ≤ qd.length := by rw [hm']; simp; omega
            have hM := Lib.hid hm'
            have hN := Lib.hid hn'
            clear hm' hn'
            go_wp2_with fail
            go_region_law (refine step_append_any _ (b + 2) rfl (.tmp 37) (.tmp 38) 28 rfl 5 elB (.slice ta tk.length tc) tk (by simp [Act.eval, Act.put]) (hT.out.agree (by repeat (first | (with_reducible exact Agree.refl _ _ _) | (with_reducible assumption) | (with_reducible refine Agree.setCell ?_ (by (try simp only [World.size_alloc, World.size_setCell, World.size_drew] at *); omega) _) | (with_reducible refine Agree.alloc ?_ (by first | omega | (simp; done) | (simp; omega)) _) | (with_reducible refine Agree.drew ?_)))) (b + 2) (.slice ab m cb) (qd.take (Qu.cut ⟨lim, qd, rs⟩ n)) (by simp [Act.eval, Act.put]) (hb'.out.agree (by repeat (first | (with_reducible exact Agree.refl _ _ _) | (with_reducible assumption) | (with_reducible refine Agree.setCell ?_ (by (try simp only [World.size_alloc, World.size_setCell, World.size_drew] at *); omega) _) | (with_reducible refine Agree.alloc ?_ (by first | omega | (simp; done) | (simp; omega)) _) | (with_reducible refine Agree.drew ?_)))) (tk ++ qd.take (Qu.cut ⟨lim, qd, rs⟩ n)) (tk.length + m) rfl (by rw [List.length_append, ← hM.out]) (by omega) (by simp; omega) ?_; intro at1 tc1 w10 ho hbw hkp hat; have hkB := hkp B (by simp; omega) (by cases ta with | none => (intro e; cases e) | some y => (intro e; simp only [Value.ownBlock, Option.some.injEq] at e; exact hBne y rfl e)); have d00 := (World.cell?_of_block (w := _) (a := ⟨B, 0, none⟩) hkB).trans (show _ = some (Value.int .i64 lim) from (by simp [go_sem, d0, hBlt])); have d01 := (World.cell?_of_block (w := _) (a := ⟨B, 1, none⟩) hkB).trans (show _ = some (Value.slice a1 n1 p1) from (by simp [go_sem, d1, hBlt])); have d02 := (World.cell?_of_block (w := _) (a := ⟨B, 2, none⟩) hkB).trans (show _ = some (Value.int .i64 rs) from (by simp [go_sem, d2, hBlt])); have f10 : ∀ o, w10.frozen? ⟨b + 1, o, none⟩ = false := (fun o => (hbw.frozen (p := ⟨b + 1, o, none⟩) (Nat.lt_succ_self _)).trans (by simp [go_sem, hfz.out])); have e100 : w10.cell? ⟨b + 1, 0, none⟩ = some (.int .i64 lim) := (hbw.cell (p := ⟨b + 1, 0, none⟩) (Nat.lt_succ_self _)).trans (by simp [go_sem, e0, hlt9]); have e102 : w10.cell? ⟨b + 1, 2, none⟩ = some (.int .i64 rs) := (hbw.cell (p := ⟨b + 1, 2, none⟩) (Nat.lt_succ_self _)).trans (by simp [go_sem, e2, hlt9]); (first | (have e101 : w10.cell? ⟨b + 1, 1, none⟩ = some (.slice da qd.length dc) := (hbw.cell (p := ⟨b + 1, 1, none⟩) (Nat.lt_succ_self _)).trans (by simp [go_sem, e1, hlt9]; done)) | (have e101 : w10.cell? ⟨b + 1, 1, none⟩ = some (.slice a1 n1 p1) := (hbw.cell (p := ⟨b + 1, 1, none⟩) (Nat.lt_succ_self _)).trans (by simp [go_sem, e1, hlt9]; done))); have f100 := f10 0; have f101 := f10 1; have f102 := f10 2; have hlt10 : b + 1 < w10.heap.size := Nat.lt_of_lt_of_le (by simp; omega) hbw.size)
            all_goals
              go_wp2_with fail
              have hB10 : Below (b + 1) wc w10 := Below.trans (show Below (b + 1) wc _ from (by repeat (first | (with_reducible exact Below.refl _ _) | (with_reducible assumption) | (with_reducible refine Below.ext ?_ (by first | omega | (simp; done) | (simp; omega)) _ _) | (with_reducible refine Below.alloc ?_ (by first | omega | (simp; done) | (simp; omega)) _) | (with_reducible refine Below.setCell ?_ (by first | omega | (simp; done) | (simp; omega)) _) | (with_reducible refine Below.drew ?_) | (with_reducible refine Below.drewN ?_ _)))) (hbw.mono (by omega))
              have hk10 : ∀ k, k < wc.heap.size → k ≠ b + 1 → (∀ y, ta = some y → y.block ≠ k) → w10.heap[k]? = wc.heap[k]? := by
                intro k hk hne hy
                refine (hkp k (by simp; exact hk) ?_).trans ?_
                · cases ta with
                  | none => intro e; cases e
                  | some y => intro e; simp only [Value.ownBlock, Option.some.injEq] at e; exact hy y rfl e
                · first | rfl | (rw [Below.heap_setCell _ _ _ _ hne, Below.heap_setCell _ _ _ _ hne, Below.heap_setCell _ _ _ _ hne]; rfl)
              have ho' : Ob (b + 2) 5 w10 (.slice at1 (tk ++ qd.take (Qu.cut ⟨lim, qd, rs⟩ n)).length tc1) (tk ++ qd.take (Qu.cut ⟨lim, qd, rs⟩ n)) := by rw [List.length_append, ← hM.out]; exact ho
              have hat' : ∀ x, at1 = some x → (∃ y, ta = some y ∧ y.block = x.block) ∨ x.block = wc.heap.size := by
                intro x hx
                rcases hat x hx with h | h
                · cases ta with
                  | none => cases h
                  | some y => exact .inl ⟨y, rfl, by simpa [Value.ownBlock] using h⟩
                · exact .inr (by simpa using h)
              clear hat hkp hbw
              go_roundg r.tail.length
              case measure => simp; omega
              case rel =>
                refine ⟨r.tail, rs, qd.drop (Qu.cut ⟨lim, qd, rs⟩ n), al, tk ++ qd.take (Qu.cut ⟨lim, qd, rs⟩ n), a1, aa, at1, p1, ac, tc1, rfl, by rw [List.length_append, ← hM.out], Lib.hid ?_, rfl, Lib.hid (by rw [hal.out]; simp), by simp; omega, hb2, by simp; omega⟩
                refine hS9.out.took (by rw [← hN.out]; exact hd'.out) (by repeat (first | (with_reducible exact Below.refl _ _) | (with_reducible assumption) | (with_reducible refine Below.ext ?_ (by first | omega | (simp; done) | (simp; omega)) _ _) | (with_reducible refine Below.alloc ?_ (by first | omega | (simp; done) | (simp; omega)) _) | (with_reducible refine Below.setCell ?_ (by first | omega | (simp; done) | (simp; omega)) _) | (with_reducible refine Below.drew ?_) | (with_reducible refine Below.drewN ?_ _))) ?_ ?_ ?_ ?_ ?_ ?_ hat'
                · intro k hk hne hy
                  first | exact hk10 k hk hne hy | (rw [Below.heap_setCell _ _ _ _ hne, Below.heap_setCell _ _ _ _ hne, Below.heap_setCell _ _ _ _ hne]; exact hk10 k hk hne hy)
                · simp [go_sem, e100, f100, hlt10]
                · rw [← hN.out]
                  simp [go_sem, e100, e101, e102, hlt10]
                · simp [go_sem, e102, hlt10]
                · intro o
                  simp [go_sem, f10 o, hlt10]
                · first | exact ho' | exact ho'.agree (by repeat (first | (with_reducible exact Agree.refl _ _ _) | (with_reducible assumption) | (with_reducible refine Agree.setCell ?_ (by (try simp only [World.size_alloc, World.size_setCell, World.size_drew] at *); omega) _) | (with_reducible refine Agree.alloc ?_ (by first | omega | (simp; done) | (simp; omega)) _) | (with_reducible refine Agree.drew ?_)))
        · have hb0 : (nx (x :: r) 3 == 0) = false := by simpa using h0
          go_wp2_with fail
          refine Calls.mono (output_any w2 b r w6 hS6.dk) ?_
          rintro e w7 ⟨v1, l1, rfl, hv1, hl1, hd7, hx7⟩
          obtain ⟨a1, p1, rfl, _⟩ := hv1.shape
          have hS7 := hS6.step hd7 hx7
          have hlo6 := hS6.lt
          have hA7 : Ap b w7 aa ta a1 l1.length p1 l1 := ⟨w6.heap.size, by omega, fun y hy => hS6.oa.lt y hy, fun y hy => hS6.ot.lt y hy, hv1⟩
          clear hv1 hd7 hx7 hS6
          go_wp2_with fail
          refine Calls.mono (output_any w2 b r.tail _ (hS7.dk.mono (Ext.al _ _))) ?_
          rintro e w8 ⟨v2, l2, rfl, hv2, hl2, hd8, hx8⟩
          obtain ⟨a2, p2, rfl, _⟩ := hv2.shape
          have hS8 := (hS7.ext (Ext.al _ _)).step hd8 hx8
          have hlt7 := hS7.lt
          have hA8 := hA7.step (Ext.al _ _) hx8
          have hL8 := (Bs.block w7 w7.heap.size w7.heap.size 5 5 #[.int .u8 102, .int .u8 117, .int .u8 108, .int .u8 108, .int .u8 32] 5 (5, 6) [102, 117, 108, 108, 32] rfl (Nat.le_refl _) rfl rfl (Nat.le_refl _) (by decide)).agree (hx8.agree (lo := w7.heap.size) (by omega) (Nat.le_refl _))
          clear hx8 hd8 hS7 hA7
          go_wp2_with (at_builtin; refine wpList_append_fresh w8 rfl _ _ 28 rfl 5 elB w7.heap.size ⟨w7.heap.size, 0, none⟩ 5 [102, 117, 108, 108, 32] rfl rfl hL8 _ _ l2 rfl hv2 (by omega) (by simp; omega) ?_)
          intro cf w9 hof hE9
          have hS9 := hS8.ext hE9
          have hA9 := hA8.ext hE9
          have c0 := hS9.c0
          have c1 := hS9.c1
          have c2 := hS9.c2
          have hlt8 := hS8.lt
          clear hL8 hv2 hS8 hA8
          have hqd : qd.length ≤ 4000 := by have := congrArg List.length hal.out; simp at this; omega
          go_wp2_with fail
          refine Calls.mono (push_any 0 ⟨lim, qd, rs⟩ _ _ _ l1 ([102, 117, 108, 108, 32] ++ l2) _ (IsQ.mk _ _ _ _ _ _ (hS9.bs.weak (Nat.zero_le _))) (hA9.bs.weak (Nat.zero_le _)) (hof.bs.weak (Nat.zero_le _)) (by simp; omega) (by simp; omega)) ?_
          rintro e w10 ⟨v', rfl, hq', hE10⟩
          have hS10 := hS9.ext hE10
          have hA10 := hA9.ext hE10
          have hof10 := hof.mono hE10
          have hlt9 := hS9.lt
          have hAp : ∀ {a3 : Option Addr} {p3 : Nat} {q' : List UInt8}, Bs w9.heap.size w10 (.slice a3 q'.length p3) q' → Ap b w10 aa ta a3 q'.length p3 q' := fun h => ⟨w9.heap.size, by omega, fun y hy => hS9.oa.lt y hy, fun y hy => hS9.ot.lt y hy, h⟩
          have g0 := hS10.c0
          have g1 := hS10.c1
          have g2 := hS10.c2
          have k0 := hS10.fz 0
          have k1 := hS10.fz 1
          have k2 := hS10.fz 2
          have hlt10 := hS10.lt
          have hle10 := Lib.hid hE10.size
          clear c0 c1 c2 hof hE10 hE9
          by_cases hfit : (qd.length : Int) + l1.length ≤ lim
          · rw [show Qu.push ⟨lim, qd, rs⟩ l1 ([102, 117, 108, 108, 32] ++ l2) = ⟨lim, qd ++ l1, rs⟩ from by unfold Qu.push; rw [if_pos hfit]] at hq'
            obtain ⟨a3, p3, hv, h3⟩ := hq'.fields
            simp only at hv h3
            subst hv
            have hA3 := Lib.hid (hAp h3)
            clear hq' h3 hAp
            go_wp2_with (at_builtin; refine wpList_append_any _ (b + 2) rfl _ _ 28 rfl 5 elB _ al rfl (hS10.oa.mono (Ext.al _ _)) (b + 2) _ l1 rfl (hA10.bs.mono (Ext.al _ _)) (al ++ l1) (al.length + l1.length) rfl (by simp) (by omega) (by simp; omega) ?_)
            intro aN cN w11 hoN hbw hkp hat
            have hkX := hkp w10.heap.size (by simp) (by cases aa with | none => (intro e; cases e) | some y => (intro e; simp only [Value.ownBlock, Option.some.injEq] at e; have := hS10.oa.lt y rfl; omega))
            have d00 : w11.cell? ⟨w10.heap.size, 0, none⟩ = some (Value.int .i64 lim) := (World.cell?_of_block (w := _) (a := ⟨w10.heap.size, 0, none⟩) hkX).trans (by simp [go_sem])
            have d01 : w11.cell? ⟨w10.heap.size, 1, none⟩ = some (Value.slice a3 (qd.length + l1.length) p3) := (World.cell?_of_block (w := _) (a := ⟨w10.heap.size, 1, none⟩) hkX).trans (by simp [go_sem])
            have d02 : w11.cell? ⟨w10.heap.size, 2, none⟩ = some (Value.int .i64 rs) := (World.cell?_of_block (w := _) (a := ⟨w10.heap.size, 2, none⟩) hkX).trans (by simp [go_sem])
            have f10 : ∀ o, w11.frozen? ⟨b + 1, o, none⟩ = false := fun o => (hbw.frozen (p := ⟨b + 1, o, none⟩) (Nat.lt_succ_self _)).trans (by simp [go_sem, hS10.fz o, hlt10])
            have e100 : w11.cell? ⟨b + 1, 0, none⟩ = some (.int .i64 lim) := (hbw.cell (p := ⟨b + 1, 0, none⟩) (Nat.lt_succ_self _)).trans (by simp [go_sem, g0, hlt10])
            have e101 : w11.cell? ⟨b + 1, 1, none⟩ = some (.slice da qd.length dc) := (hbw.cell (p := ⟨b + 1, 1, none⟩) (Nat.lt_succ_self _)).trans (by simp [go_sem, g1, hlt10])
            have e102 : w11.cell? ⟨b + 1, 2, none⟩ = some (.int .i64 rs) := (hbw.cell (p := ⟨b + 1, 2, none⟩) (Nat.lt_succ_self _)).trans (by simp [go_sem, g2, hlt10])
            have f100 := f10 0
            have f101 := f10 1
            have f102 := f10 2
            have hlt11 : b + 1 < w11.heap.size := Nat.lt_of_lt_of_le (by simp; omega) hbw.size
            have hB11 : Below (b + 1) w10 w11 := Below.trans (show Below (b + 1) w10 _ from (by repeat (first | (with_reducible exact Below.refl _ _) | (with_reducible assumption) | (with_reducible refine Below.ext ?_ (by first | omega | (simp; done) | (simp; omega)) _ _) | (with_reducible refine Below.alloc ?_ (by first | omega | (simp; done) | (simp; omega)) _) | (with_reducible refine Below.setCell ?_ (by first | omega | (simp; done) | (simp; omega)) _) | (with_reducible refine Below.drew ?_) | (with_reducible refine Below.drewN ?_ _)))) (hbw.mono (by omega))
            obtain ⟨F, hF⟩ : ∃ F, F = ((w11.setCell ⟨b + 1, 0, none⟩ (.int .i64 lim)).setCell ⟨b + 1, 1, none⟩ (.slice a3 (qd.length + l1.length) p3)).setCell ⟨b + 1, 2, none⟩ (.int .i64 rs) := ⟨_, rfl⟩
            have hSF : Sq w2 F b r.tail.tail lim rs (qd ++ l1) a3 p3 (al ++ l1) aN cN tk ta tc := by
              subst hF
              refine hS10.pushed hA3.out (by repeat (first | (with_reducible exact Below.refl _ _) | (with_reducible assumption) | (with_reducible refine Below.ext ?_ (by first | omega | (simp; done) | (simp; omega)) _ _) | (with_reducible refine Below.alloc ?_ (by first | omega | (simp; done) | (simp; omega)) _) | (with_reducible refine Below.setCell ?_ (by first | omega | (simp; done) | (simp; omega)) _) | (with_reducible refine Below.drew ?_) | (with_reducible refine Below.drewN ?_ _))) ?_ ?_ ?_ ?_ ?_ ?_ ?_ (.inl ⟨rfl, rfl, rfl⟩)
              · intro k hk hne hy
                rw [Below.heap_setCell _ _ _ _ hne, Below.heap_setCell _ _ _ _ hne, Below.heap_setCell _ _ _ _ hne]
                refine (hkp k (by first | omega | (simp; done) | (simp; omega)) ?_).trans (ext_old_alloc w10 _ k hk)
                cases aa with
                | none => intro e; cases e
                | some y => intro e; simp only [Value.ownBlock, Option.some.injEq] at e; exact hy y rfl e
              · simp [go_sem, e100, f100, hlt11]
              · simp [go_sem, e100, e101, e102, hlt11]
              · simp [go_sem, e102, hlt11]
              · intro o
                simp [go_sem, f10 o, hlt11]
              · have hoN' : Ob (b + 2) 5 w11 (.slice aN ((al ++ l1)).length cN) ((al ++ l1)) := by first | exact hoN | (rw [List.length_append]; exact hoN) | (simp only [List.length_cons]; exact hoN)
                exact hoN'.agree (by repeat (first | (with_reducible exact Agree.refl _ _ _) | (with_reducible assumption) | (with_reducible refine Agree.setCell ?_ (by (try simp only [World.size_alloc, World.size_setCell, World.size_drew] at *); omega) _) | (with_reducible refine Agree.alloc ?_ (by first | omega | (simp; done) | (simp; omega)) _) | (with_reducible refine Agree.drew ?_)))
              · intro x hx
                rcases hat x hx with h | h
                · cases aa with
                  | none => cases h
                  | some y => exact .inl ⟨y, rfl, by simpa [Value.ownBlock] using h⟩
                · exact .inr (by rw [h]; simp)
            have cv1 := run_string_bs (P := Try.prog) F _ _ _ _ _ _ Try.underlying28 Try.underlying5 Try.underlying9 hSF.oa.bs
            have cv2 := run_string_bs (P := Try.prog) F _ _ _ _ _ _ Try.underlying28 Try.underlying5 Try.underlying9 hSF.ot.bs
            have cv3 := run_string_bs (P := Try.prog) F _ _ _ _ _ _ Try.underlying28 Try.underlying5 Try.underlying9 hSF.bs
            simp only [List.length_append, List.length_cons, List.length_nil] at cv1 cv2 cv3
            rw [hF] at cv1 cv2 cv3
            have hSF' := Lib.hid hSF
            have hF' := Lib.hid hF
            clear hSF hF hS10 hA10 hkp hat hbw hA3 hB11 hoN
            have hqd2 : al.length ≤ 4000 ∧ tk.length ≤ 4000 := by have := congrArg List.length hal.out; simp only [List.length_append] at this; omega
            obtain ⟨hal4, htk4⟩ := hqd2
            have hcmp : (!al ++ l1 == tk ++ (qd ++ l1)) = false := by rw [hal.out]; simp
            go_wp2_with fail
            go_roundg r.tail.tail.length
            case measure => simp; omega
            case rel => exact ⟨r.tail.tail, rs, qd ++ l1, al ++ l1, tk, a3, aN, ta, p3, cN, tc, by rw [List.length_append], rfl, Lib.hid (by rw [← hF'.out]; exact hSF'.out), rfl, Lib.hid (by rw [hal.out]; simp), by simp; omega, hb2, by simp; omega⟩
          · have hw : wrap64 (rs + 1) = rs + 1 := by unfold wrap64; omega
            rw [show Qu.push ⟨lim, qd, rs⟩ l1 ([102, 117, 108, 108, 32] ++ l2) = ⟨lim, 102 :: 117 :: 108 :: 108 :: 32 :: l2, rs + 1⟩ from by unfold Qu.push; rw [if_neg hfit]; simp [hw]] at hq'
            obtain ⟨fl, hfl⟩ : ∃ fl, fl = 102 :: 117 :: 108 :: 108 :: 32 :: l2 := ⟨_, rfl⟩
            rw [← hfl] at hq' hof10
            have hflen : fl.length = 5 + l2.length := by rw [hfl]; simp; omega
            have hFL := Lib.hid hflen
            have hfle : fl.length ≤ 17 := by omega
            clear hfl hflen
            obtain ⟨a3, p3, hv, h3⟩ := hq'.fields
            simp only at hv h3
            subst hv
            have hA3 := Lib.hid (hAp h3)
            clear hq' h3 hAp hw
            have x1 : IntKind.i64.wrap (rs + 1) = rs + 1 := IntWalk.i64_in _ (by omega)
            have hne : (rs + 1 != rs) = true := by rw [bne_iff_ne]; omega
            go_wp2_with (at_builtin; refine wpList_append_any _ (b + 2) rfl _ _ 28 rfl 5 elB _ [] rfl (Ob.new _ _ _ _ (by simp) (by simp; omega)) (b + 2) _ fl rfl (((hof10.bs.weak (by omega)).mono (Ext.al _ _)).mono (Ext.al _ _)) fl fl.length rfl rfl (by omega) (by simp; omega) ?_)
            intro aN cN w11 hoN hbw hkp hat
            have hkX := hkp w10.heap.size (by first | omega | (simp; done) | (simp; omega)) (by intro e; simp only [Value.ownBlock, Option.some.injEq] at e; omega)
            have d00 : w11.cell? ⟨w10.heap.size, 0, none⟩ = some (Value.int .i64 lim) := (World.cell?_of_block (w := _) (a := ⟨w10.heap.size, 0, none⟩) hkX).trans (by simp [go_sem])
            have d01 : w11.cell? ⟨w10.heap.size, 1, none⟩ = some (Value.slice a3 fl.length p3) := (World.cell?_of_block (w := _) (a := ⟨w10.heap.size, 1, none⟩) hkX).trans (by simp [go_sem])
            have d02 : w11.cell? ⟨w10.heap.size, 2, none⟩ = some (Value.int .i64 (rs + 1)) := (World.cell?_of_block (w := _) (a := ⟨w10.heap.size, 2, none⟩) hkX).trans (by simp [go_sem])
            have hltb : b < w10.heap.size := by omega
            have f10 : ∀ o, w11.frozen? ⟨b + 1, o, none⟩ = false := fun o => (hbw.frozen (p := ⟨b + 1, o, none⟩) (Nat.lt_succ_self _)).trans (by simp [go_sem, hS10.fz o, hlt10, hltb])
            have e100 : w11.cell? ⟨b + 1, 0, none⟩ = some (.int .i64 lim) := (hbw.cell (p := ⟨b + 1, 0, none⟩) (Nat.lt_succ_self _)).trans (by simp [go_sem, g0, hlt10, hltb])
            have e101 : w11.cell? ⟨b + 1, 1, none⟩ = some (.slice da qd.length dc) := (hbw.cell (p := ⟨b + 1, 1, none⟩) (Nat.lt_succ_self _)).trans (by simp [go_sem, g1, hlt10, hltb])
            have e102 : w11.cell? ⟨b + 1, 2, none⟩ = some (.int .i64 rs) := (hbw.cell (p := ⟨b + 1, 2, none⟩) (Nat.lt_succ_self _)).trans (by simp [go_sem, g2, hlt10, hltb])
            have f100 := f10 0
            have f101 := f10 1
            have f102 := f10 2
            have hlt11 : b + 1 < w11.heap.size := Nat.lt_of_lt_of_le (by simp; omega) hbw.size
            have hB11 : Below (b + 1) w10 w11 := Below.trans (show Below (b + 1) w10 _ from (by repeat (first | (with_reducible exact Below.refl _ _) | (with_reducible assumption) | (with_reducible refine Below.ext ?_ (by first | omega | (simp; done) | (simp; omega)) _ _) | (with_reducible refine Below.alloc ?_ (by first | omega | (simp; done) | (simp; omega)) _) | (with_reducible refine Below.setCell ?_ (by first | omega | (simp; done) | (simp; omega)) _) | (with_reducible refine Below.drew ?_) | (with_reducible refine Below.drewN ?_ _)))) (hbw.mono (by omega))
            obtain ⟨F, hF⟩ : ∃ F, F = ((w11.setCell ⟨b + 1, 0, none⟩ (.int .i64 lim)).setCell ⟨b + 1, 1, none⟩ (.slice a3 fl.length p3)).setCell ⟨b + 1, 2, none⟩ (.int .i64 (rs + 1)) := ⟨_, rfl⟩
            have hSF : Sq w2 F b r.tail.tail lim (rs + 1) fl a3 p3 fl aN cN [] none 0 := by
              subst hF
              refine hS10.pushed hA3.out (by repeat (first | (with_reducible exact Below.refl _ _) | (with_reducible assumption) | (with_reducible refine Below.ext ?_ (by first | omega | (simp; done) | (simp; omega)) _ _) | (with_reducible refine Below.alloc ?_ (by first | omega | (simp; done) | (simp; omega)) _) | (with_reducible refine Below.setCell ?_ (by first | omega | (simp; done) | (simp; omega)) _) | (with_reducible refine Below.drew ?_) | (with_reducible refine Below.drewN ?_ _))) ?_ ?_ ?_ ?_ ?_ ?_ ?_ (.inr ⟨rfl, rfl, rfl⟩)
              · intro k hk hne hy
                rw [Below.heap_setCell _ _ _ _ hne, Below.heap_setCell _ _ _ _ hne, Below.heap_setCell _ _ _ _ hne]
                refine (hkp k (by first | omega | (simp; done) | (simp; omega)) ?_).trans ((ext_old_alloc (w10.alloc _) _ k (by first | omega | (simp; done) | (simp; omega))).trans (ext_old_alloc w10 _ k hk))
                intro e; simp only [Value.ownBlock, Option.some.injEq] at e; omega
              · simp [go_sem, e100, f100, hlt11]
              · simp [go_sem, e100, e101, e102, hlt11]
              · simp [go_sem, e102, hlt11]
              · intro o
                simp [go_sem, f10 o, hlt11]
              · have hoN' : Ob (b + 2) 5 w11 (.slice aN (fl).length cN) (fl) := by first | exact hoN | (rw [List.length_append]; exact hoN) | (simp only [List.length_cons]; exact hoN)
                exact hoN'.agree (by repeat (first | (with_reducible exact Agree.refl _ _ _) | (with_reducible assumption) | (with_reducible refine Agree.setCell ?_ (by (try simp only [World.size_alloc, World.size_setCell, World.size_drew] at *); omega) _) | (with_reducible refine Agree.alloc ?_ (by first | omega | (simp; done) | (simp; omega)) _) | (with_reducible refine Agree.drew ?_)))
              · intro x hx
                rcases hat x hx with h | h
                · exact .inr (by simp only [Value.ownBlock, Option.some.injEq] at h; omega)
                · exact .inr (by rw [h]; first | omega | (simp; done) | (simp; omega))
            have cv1 := run_string_bs (P := Try.prog) F _ _ _ _ _ _ Try.underlying28 Try.underlying5 Try.underlying9 hSF.oa.bs
            have cv2 := run_string_bs (P := Try.prog) F _ _ _ _ _ _ Try.underlying28 Try.underlying5 Try.underlying9 hSF.ot.bs
            have cv3 := run_string_bs (P := Try.prog) F _ _ _ _ _ _ Try.underlying28 Try.underlying5 Try.underlying9 hSF.bs
            simp only [List.length_append, List.length_cons, List.length_nil] at cv1 cv2 cv3
            rw [hF] at cv1 cv2 cv3
            have hSF' := Lib.hid hSF
            have hF' := Lib.hid hF
            clear hSF hF hS10 hA10 hkp hat hbw hA3 hB11 hoN
            have hqd2 : al.length ≤ 4000 ∧ tk.length ≤ 4000 := by have := congrArg List.length hal.out; simp only [List.length_append] at this; omega
            obtain ⟨hal4, htk4⟩ := hqd2
            have hcmp : (!fl == fl) = false := by simp
            go_wp2_with fail
            go_roundg r.tail.tail.length
            case measure => simp; omega
            case rel => exact ⟨r.tail.tail, rs + 1, fl, fl, [], a3, aN, none, p3, cN, 0, rfl, rfl, Lib.hid (by rw [← hF'.out]; exact hSF'.out), rfl, Lib.hid rfl, by simp; omega, by omega, by simp; omega⟩
  · rw [decide_eq_false h200]
    go_wp2_with fail
    go_ret
    exact ⟨rfl, hb⟩
end Go.Proofs.Ytebkepcjcciigaa
