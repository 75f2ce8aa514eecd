import Derived.Test.YtdpobjakdplljaaGreatDoorW18
import Derived.Test.YtdpobjakdplljaaGreatDoorW34
import Derived.Shelf.Strings.Search2
import Derived.Shelf.Strconv.Itoa3
import Derived.Shelf.Bytes.SlEqualAll
import Derived.Shelf.Strings.OnBuilder
import Derived.Test.YtdpobjakdplljaaGreatDoorW7
/- The program's scripts: numbers of whatever text, fields. -/
set_option linter.unusedSimpArgs false
set_option linter.unusedVariables false
namespace Go.Proofs.YtdpobjakdplljaaGreatDoor
open Go.RowKit
theorem XjF {P : Program} {f : FuncId} {args : List Value} {Q : Value → Prop} (h : ∀ w, Gw w → Calls P f args.toArray w fun e w' => ∃ v, e = .returned v ∧ Q v ∧ Ext w w') (H : List Hp) : Xa8 P f H (args.map .x) fun r H' => ∃ v, Q v ∧ r = .x v ∧ H' = H := by
 intro V w vs hV hH hd hgl
 rw [hd.exact']
 refine (h w hgl.2).mono ?_
 rintro e w' ⟨v, rfl, hq, hE⟩
 exact ⟨.x v, H, v, ⟨v, hq, rfl, rfl⟩, rfl, by rw [Den], ⟨fun x hx => (hH.ok x hx).conv (fun k hk => .inl hk) (fun k hk _ => hE.block k hk) hE.size (fun k hk => hE.block k (hH.lt x hx k hk).1), hH.apart, fun x hx k hk => ⟨Nat.lt_of_lt_of_le (hH.lt x hx k hk).1 hE.size, (hH.lt x hx k hk).2⟩⟩, hE.fr _, fun x hx k hk => .inl ⟨x, hx, hk⟩⟩
theorem Xe3 (M : Nat) : ∀ (l : List UInt8) (acc u : Nat), acc ≤ M → Lib.parseUintM M acc l = .ok u → u ≤ M
 | [], acc, u, h, e => by rw [Lib.parseUintM] at e; cases e; exact h
 | c :: r, acc, u, h, e => by
  rw [Lib.parseUintM] at e
  split at e
  ·split at e
   ·cases e
   ·split at e
    ·cases e
    ·exact Xe3 M r _ u (by omega) e
  ·cases e
theorem Xh5 (s : List UInt8) (hl : s.length ≤ 100000) : Xa8 Tryz.prog 90 [] [.x (.string (bs s)), .x (.int .i64 10), .x (.int .i64 64)] (fun r H' => ∃ v, (∃ (n : Int) (ev : Value), v = .tuple #[.int .u64 n, ev] ∧ 0 ≤ n ∧ n ≤ 18446744073709551615) ∧ r = .x v ∧ H' = []) := by
 refine XjF (args := [.string (bs s), .int .i64 10, .int .i64 64]) (fun w hg => ?_) []
 cases h : Lib.parseUintB 64 (bs s).data.toList with
 | ok u =>
  refine (strconv_ParseUint_10_at64_ok (bs s) (by simp [bs, ByteArray.size]; omega) u h w).mono ?_
  have hu : u ≤ 2 ^ 64 - 1 := by
   unfold Lib.parseUintB at h
   split at h
   ·cases h
   ·exact Xe3 _ _ 0 u (Nat.zero_le _) h
  rintro e w' ⟨rfl, rfl | rfl⟩
  ·exact ⟨_, rfl, ⟨u, .nilIface, rfl, by omega, by omega⟩, Below.refl _ _⟩
  ·exact ⟨_, rfl, ⟨u, .nilIface, rfl, by omega, by omega⟩, by rw [XcM]; exact Ext.ext _ _ _⟩
 | «syntax» =>
  obtain ⟨t, v, hv⟩ := hg.syn
  refine (strconv_ParseUint_10_at64_syntax (bs s) (by simp [bs, ByteArray.size]; omega) h _ w hv (.inr ⟨_, _, rfl⟩)).mono ?_
  rintro e w' ⟨N, rfl, -, -, hE⟩
  exact ⟨_, rfl, ⟨0, _, rfl, by omega, by omega⟩, hE⟩
 | range =>
  obtain ⟨t, v, hv⟩ := hg.rng
  refine (strconv_ParseUint_10_at64_range (bs s) (by simp [bs, ByteArray.size]; omega) h _ w hv (.inr ⟨_, _, rfl⟩)).mono ?_
  rintro e w' ⟨N, rfl, -, -, hE⟩
  exact ⟨_, rfl, ⟨18446744073709551615, _, rfl, by omega, by omega⟩, hE⟩
def XmU (acc : Nat) (l : List UInt8) : Nat := l.foldl (fun n c => n * 10 + (c.toNat - 48)) acc
theorem Xmu (l : List UInt8) (hd : Xex l) : ∀ acc, (acc + 1) * 10 ^ l.length ≤ 1000000000000000000 → Lib.parseUintM (2 ^ 64 - 1) acc l = .ok (XmU acc l) := by
 induction l with
 | nil => intro acc _; rfl
 | cons c r ih =>
  intro acc h
  have hc := hd c (List.mem_cons_self ..)
  have h10 : 1 ≤ 10 ^ r.length := Nat.pow_pos (by decide)
  rw [Xu2, Nat.pow_succ] at h
  have h2 : (acc + 1) * 10 ≤ 1000000000000000000 := by
   calc (acc + 1) * 10 = (acc + 1) * (1 * 10) := by omega
    _ ≤ (acc + 1) * (10 ^ r.length * 10) := Nat.mul_le_mul_left _ (Nat.mul_le_mul_right _ h10)
    _ ≤ _ := h
  have h3 : (acc * 10 + (c.toNat - 48) + 1) * 10 ^ r.length ≤ 1000000000000000000 := by
   calc (acc * 10 + (c.toNat - 48) + 1) * 10 ^ r.length ≤ ((acc + 1) * 10) * 10 ^ r.length := Nat.mul_le_mul_right _ (by omega)
    _ = (acc + 1) * (10 ^ r.length * 10) := by rw [Nat.mul_assoc, Nat.mul_comm 10]
    _ ≤ _ := h
  rw [Lib.parseUintM, if_pos hc, if_neg (by omega), if_neg (by omega), ih (fun x hx => hd x (List.mem_cons_of_mem _ hx)) _ h3]
  rfl
theorem Xl0 (l : List UInt8) (hd : Xex l) : ∀ acc : Nat, ((XmU acc l : Nat) : Int) = l.foldl (fun n c => 10 * n + ((c.toNat : Int) - 48)) (acc : Int) := by
 induction l with
 | nil => intro acc; rfl
 | cons c r ih =>
  intro acc
  have hc := hd c (List.mem_cons_self ..)
  have := ih (fun x hx => hd x (List.mem_cons_of_mem _ hx)) (acc * 10 + (c.toNat - 48))
  simp only [XmU, Xu0] at this ⊢
  rw [this]
  congr 1
  omega
theorem XlV (l : List UInt8) (hd : Xex l) (h1 : 1 ≤ l.length) (h18 : l.length ≤ 18) : Lib.parseUintB 64 l = .ok (XmU 0 l) := by
 unfold Lib.parseUintB
 rw [if_neg (by intro h; rw [h] at h1; simp at h1)]
 refine Xmu l hd 0 ?_
 have := Nat.pow_le_pow_right (n := 10) (by decide) h18
 simpa using this
theorem Xi5 (s : List UInt8) (hd : Xex s) (h1 : 1 ≤ s.length) (h18 : s.length ≤ 18) : Xa8 Tryz.prog 90 [] [.x (.string (bs s)), .x (.int .i64 10), .x (.int .i64 64)] (fun r H' => r = .x (.tuple #[.int .u64 (Xdm s), .nilIface]) ∧ H' = []) := by
 have e : Xdm s = ((XmU 0 s : Nat) : Int) := (Xl0 s hd 0).symm
 rw [e]
 refine Xcn (args := [.string (bs s), .int .i64 10, .int .i64 64]) (fun w => (strconv_ParseUint_10_at64_ok (bs s) (by simp [bs, ByteArray.size]; omega) _ (by simpa [bs] using XlV s hd h1 h18) w).mono ?_) []
 rintro e w' ⟨rfl, rfl | rfl⟩
 ·exact ⟨rfl, Below.refl _ _⟩
 ·exact ⟨rfl, by rw [XcM]; exact Ext.ext _ _ _⟩
def XbY (a : Int) : UInt8 := if a = 106 then 78 else if a = 119 then 75 else if a = 100 then 68 else if a = 97 then 84 else if a = 99 then 67 else if a = 108 then 76 else 77
set_option maxRecDepth 100000 in
set_option maxHeartbeats 8000000 in
theorem Xta (be : Nat) (e : EF) (a : Int) (t : Tok) (hlen : t.text.length ≤ 70000) (hk : ¬ t.kind = 2) (ha : a = 106 ∨ a = 119 ∨ a = 100 ∨ a = 97 ∨ a = 99 ∨ a = 108 ∨ a = 110) : Xa8 Tryz.prog 53 [.box be e.cells] [.x (.pointer (some ⟨be, 0, none⟩)), .x (.int .i32 a), t.av] (fun r H' => ∃ e' : EF, r = .x (.bool (XbL (XbY a) t)) ∧ H' = [.box be e'.cells] ∧ (XbL (XbY a) t = true → e' = XgO e (XbY a) t)) := by
 have q1 := Xh5 t.text (by omega)
 unfold Tok.av
 have he : e.cells = [.x (.int .i64 e.kind), .x (.string (bs e.job)), .x (.bool e.ok), .x (.int .i64 e.code), .sq e.data.length (u8a e.data), .x (.int .u64 e.time), .x (.int .i64 e.client), .x (.int .i64 e.num)] := rfl
 rw [he]
 have hb2 : (t.kind != 2) = true := bne_iff_ne.2 hk
 have hb2' : (t.kind == 2) = false := Xvg.2 hk
 refine XaG Tryz.func53 rfl ?_
 simp only [Tryz.ntmps53, Xu2, Xu5, Xu6, Xu7, Xva, Xu9, Nat.reduceAdd, Nat.reduceSub]
 (repeat' (first | with_reducible (first | refine Xah ?_ | refine Xac ?_ | refine Xan ?_ | refine Xat ?_ | refine Xax ?_ | refine Xae ?_ | refine Xaa ?_ | refine Xaw ?_ | refine Xag ?_ | refine Xav ?_) | (refine Xai _ rfl (fun h => ?_) (fun h => ?_) <;> first | (exact absurd h (by decide)) | ((try (simp only [whn] at h)); skip)) | ((apply Xdn rfl rfl rfl); (case hT => ((try simp (disch := omega) only [wtn, hb2, hb2', Xu3, Xu0, Xu1, Xu4, Xu8, Nat.reduceAdd, Nat.reduceMul, Nat.reduceSub, ↓reduceIte, Nat.reduceEqDiff]); rfl))) | ((first | apply Xad rfl | apply Xa7 _ _ rfl rfl rfl); (case h => ((try (intro (hp : (_ : Bool) = true); ((try simp only [Bool.and_eq_true, Bool.not_eq_true'] at hp); (try simp only [hp, wte]); (try simp only [whn] at hp)))); (first | (apply Xab 0 rfl; (first | exact Xar _ rfl | exact Xao _ rfl)) | (apply Xab 1 rfl; (first | exact XbG _ _ _ rfl rfl | exact Xbn _ _ _ _ _ rfl rfl rfl rfl | exact XcI _ _ _ _ _ rfl rfl rfl rfl)) | (apply Xab 4 rfl; (exact Xbf _ rfl (by first | exact .inl ⟨_, rfl⟩ | fail))) | (apply Xab 5 rfl; (exact Xal _ _ _ _ _ _ rfl rfl Xa6.out)) | (apply Xab 6 rfl; (exact XaA _ _ _ _ _ _ _ _ rfl rfl XaZ.out XaO.out (by first | exact XuY rfl | fail) (by first | exact XuY rfl | fail))) | (apply Xab 12 rfl; (exact XcT _ _ 5 _ _ rfl (by kernel_rfl) (by kernel_rfl) (by kernel_rfl) (by kernel_rfl) rfl (by omega))) | (apply XaF; (case hs => (intro _ _ h; cases h)); (case hx => rfl); (case hrun => (intro w; simp [wtb, AV.val, go_sem]; skip; rfl)))))); (case hT => ((try simp (disch := omega) only [wtn, hb2, hb2', Xu3, Xu0, Xu1, Xu4, Xu8, Nat.reduceAdd, Nat.reduceMul, Nat.reduceSub, ↓reduceIte, Nat.reduceEqDiff]); rfl))) | (refine Xaj rfl ?_; ((first | (refine Xaq 11 rfl ?_; ((refine Xam 90 Tryz.f90 ([]) _ _ _ rfl rfl Tryz.func90 (by decide) rfl (XuZ _) (VwL.refl _ _) (q1) ?_; rintro _ _ ⟨_, ⟨n, ev, rfl, hn1, hn2⟩, rfl, rfl⟩))) | (refine Xaq 15 rfl ?_; ((refine Xbt _ _ rfl (by first | rfl | fail) (fun b => ?_)))) | (refine Xaq 16 rfl ?_; ((refine Xau _ _ _ _ _ _ _ rfl rfl XaZ.out XaR.out (by first | rfl | fail) (by first | exact XuY rfl | fail) ?_)))); apply Xak; (case hT => ((try simp (disch := omega) only [wtn, hb2, hb2', Xu3, Xu0, Xu1, Xu4, Xu8, Nat.reduceAdd, Nat.reduceMul, Nat.reduceSub, ↓reduceIte, Nat.reduceEqDiff]); rfl)); (case hH => ((try simp (disch := omega) only [wtn, hb2, hb2', Xu3, Xu0, Xu1, Xu4, Xu8, Nat.reduceAdd, Nat.reduceMul, Nat.reduceSub, ↓reduceIte, Nat.reduceEqDiff]); rfl)))) | fail))
 ·subst h
  refine Xaf _ _ (Xbl rfl (RV.tmp _) (XaK.mk' [_] [_] (XuZ _) (XaE.refl _ _) (VwL.refl _ _))) ?_
  exact ⟨{ e with job := t.text }, by simp [ev, XbL, XbY]; rfl, rfl, fun _ => by simp [XgO, XbY]⟩
 ·subst h
  refine Xaf _ _ (Xbl rfl (RV.tmp _) (XaK.mk' [_] [_] (XuZ _) (XaE.refl _ _) (VwL.refl _ _))) ?_
  have hq : (t.text == [111, 107]) = decide (t.text = wOk) := by by_cases hq : t.text = [111, 107] <;> simp [hq, wOk]
  refine ⟨{ e with ok := decide (t.text = wOk) }, ?_, by rw [← hq]; rfl, fun _ => by simp [XgO, XbY]⟩
  simp [ev, XbL, XbY, wOk, Xdb]
  by_cases p1 : t.kind = 1 <;> by_cases p2 : t.text = [111, 107] <;> by_cases p3 : t.text = [102, 97, 105, 108, 101, 100] <;> simp [p1, p2, p3]
 ·subst h
  refine Xaf _ _ (Xbl rfl (RV.tmp _) (XaK.mk' [_] [_] (XuZ _) (XaE.refl _ _) (VwL.refl _ _))) ?_
  exact ⟨{ e with data := t.text }, by simp [ev, XbL, XbY]; rfl, rfl, fun _ => by simp [XgO, XbY]⟩
 ·refine Xaf _ _ (Xbl rfl (RV.tmp _) (XaK.mk' [_] [_] (XuZ _) (XaE.refl _ _) (VwL.refl _ _))) ?_
  have hno : XbL (XbY a) t = false := by
   rcases ha with rfl | rfl | rfl | rfl | rfl | rfl | rfl <;> first | (exfalso; omega) | simp [XbL, XbY, hk] | fail
  rw [hno]
  exact ⟨e, rfl, rfl, fun h => by cases h⟩
set_option maxRecDepth 100000 in
set_option maxHeartbeats 8000000 in
theorem Xt2 (be : Nat) (e : EF) (a : Int) (t : Tok) (hlen : t.text.length ≤ 70000) (hN : Xpa t) (h1t : 1 ≤ t.text.length) (hk : t.kind = 2) (ha : a = 106 ∨ a = 119 ∨ a = 100 ∨ a = 97 ∨ a = 99 ∨ a = 108 ∨ a = 110) : Xa8 Tryz.prog 53 [.box be e.cells] [.x (.pointer (some ⟨be, 0, none⟩)), .x (.int .i32 a), t.av] (fun r H' => ∃ e' : EF, r = .x (.bool (XbL (XbY a) t)) ∧ H' = [.box be e'.cells] ∧ (XbL (XbY a) t = true → e' = XgO e (XbY a) t)) := by
 obtain ⟨n1, n2⟩ := hN hk
 have q1 := Xi5 t.text n2 h1t n1
 obtain ⟨b1, b2⟩ := Xk4 hN hk
 unfold Tok.av
 have he : e.cells = [.x (.int .i64 e.kind), .x (.string (bs e.job)), .x (.bool e.ok), .x (.int .i64 e.code), .sq e.data.length (u8a e.data), .x (.int .u64 e.time), .x (.int .i64 e.client), .x (.int .i64 e.num)] := rfl
 rw [he]
 generalize hnv : Xdm t.text = nv at *
 have hnv' := Lib.hid hnv
 have n2' := Lib.hid n2
 clear hnv n2 hN
 have hb2 : (t.kind != 2) = false := by rw [hk]; rfl
 refine XaG Tryz.func53 rfl ?_
 simp only [Tryz.ntmps53, Xu2, Xu5, Xu6, Xu7, Xva, Xu9, Nat.reduceAdd, Nat.reduceSub]
 (repeat' (first | with_reducible (first | refine Xah ?_ | refine Xac ?_ | refine Xan ?_ | refine Xat ?_ | refine Xax ?_ | refine Xae ?_ | refine Xaa ?_ | refine Xaw ?_ | refine Xag ?_ | refine Xav ?_) | (refine Xai _ rfl (fun h => ?_) (fun h => ?_) <;> first | (exact absurd h (by decide)) | ((try (simp only [whn] at h)); first | (exfalso; omega; done) | skip)) | ((first | apply Xad rfl | apply Xa7 _ _ rfl rfl rfl); (case h => ((try (intro (hp : (_ : Bool) = true); ((try simp only [Bool.and_eq_true, Bool.not_eq_true'] at hp); (try simp only [hp, wte]); (try simp only [whn] at hp)))); (first | (apply Xab 0 rfl; (first | exact Xar _ rfl | exact Xao _ rfl)) | (apply Xab 1 rfl; (first | exact XbE _ _ _ rfl rfl | exact Xbn _ _ _ _ _ rfl rfl rfl rfl | exact XcI _ _ _ _ _ rfl rfl rfl rfl)) | (apply Xab 4 rfl; (exact Xbf _ rfl (by first | exact .inl ⟨_, rfl⟩ | fail))) | (apply Xab 5 rfl; (exact Xal _ _ _ _ _ _ rfl rfl Xa6.out)) | (apply Xab 6 rfl; (exact XaA _ _ _ _ _ _ _ _ rfl rfl XaZ.out XaO.out (by first | exact XuY rfl | fail) (by first | exact XuY rfl | fail))) | (apply Xab 12 rfl; (exact XcT _ _ 5 _ _ rfl (by kernel_rfl) (by kernel_rfl) (by kernel_rfl) (by kernel_rfl) rfl (by omega))) | (apply XaF; (case hs => (intro _ _ h; cases h)); (case hx => rfl); (case hrun => (intro w; simp [wtb, AV.val, go_sem]; (try go_bits); rfl)))))); (case hT => ((try simp (disch := omega) only [wtn, hb2, Xu3, Xu0, Xu1, Xu4, Xu8, Nat.reduceAdd, Nat.reduceMul, Nat.reduceSub, ↓reduceIte, Nat.reduceEqDiff]); rfl))) | (refine Xaj rfl ?_; ((first | (refine Xaq 11 rfl ?_; ((refine Xam 90 Tryz.f90 ([]) _ _ _ rfl rfl Tryz.func90 (by decide) rfl (XuZ _) (VwL.refl _ _) (q1) ?_; rintro _ _ ⟨rfl, rfl⟩))) | (refine Xaq 15 rfl ?_; ((refine Xbt _ _ rfl (by first | rfl | fail) (fun b => ?_)))) | (refine Xaq 16 rfl ?_; ((refine Xau _ _ _ _ _ _ _ rfl rfl XaZ.out XaR.out (by first | rfl | fail) (by first | exact XuY rfl | fail) ?_)))); apply Xak; (case hT => ((try simp (disch := omega) only [wtn, hb2, Xu3, Xu0, Xu1, Xu4, Xu8, Nat.reduceAdd, Nat.reduceMul, Nat.reduceSub, ↓reduceIte, Nat.reduceEqDiff]); rfl)); (case hH => ((try simp (disch := omega) only [wtn, hb2, Xu3, Xu0, Xu1, Xu4, Xu8, Nat.reduceAdd, Nat.reduceMul, Nat.reduceSub, ↓reduceIte, Nat.reduceEqDiff]); rfl)))) | fail))
 ·subst h
  refine Xaf _ _ (Xbl rfl (RV.tmp _) (XaK.mk' [_] [_] (XuZ _) (XaE.refl _ _) (VwL.refl _ _))) ?_
  exact ⟨{ e with job := t.text }, by simp [ev, XbL, XbY]; rfl, rfl, fun _ => by simp [XgO, XbY]⟩
 ·subst h
  refine Xaf _ _ (Xbl rfl (RV.tmp _) (XaK.mk' [_] [_] (XuZ _) (XaE.refl _ _) (VwL.refl _ _))) ?_
  have hq : (t.text == [111, 107]) = decide (t.text = wOk) := by by_cases hq : t.text = [111, 107] <;> simp [hq, wOk]
  refine ⟨{ e with ok := decide (t.text = wOk) }, ?_, by rw [← hq]; rfl, fun _ => by simp [XgO, XbY]⟩
  simp [ev, XbL, XbY, wOk, Xdb]
  by_cases p1 : t.kind = 1 <;> by_cases p2 : t.text = [111, 107] <;> by_cases p3 : t.text = [102, 97, 105, 108, 101, 100] <;> simp [p1, p2, p3]
 ·subst h
  refine Xaf _ _ (Xbl rfl (RV.tmp _) (XaK.mk' [_] [_] (XuZ _) (XaE.refl _ _) (VwL.refl _ _))) ?_
  exact ⟨{ e with data := t.text }, by simp [ev, XbL, XbY]; rfl, rfl, fun _ => by simp [XgO, XbY]⟩
 ·subst h
  refine Xaf _ _ (Xbl rfl (RV.tmp _) (XaK.mk' [_] [_] (XuZ _) (XaE.refl _ _) (VwL.refl _ _))) ?_
  have hnv := hnv'.out
  exact ⟨{ e with time := nv }, by simp [ev, XbL, XbY, hk], rfl, fun _ => by simp [XgO, XbY, hk, hnv]⟩
 ·subst h
  refine Xaf _ _ (Xbl rfl (RV.tmp _) (XaK.mk' [_] [_] (XuZ _) (XaE.refl _ _) (VwL.refl _ _))) ?_
  have hnv := hnv'.out
  refine ⟨{ e with code := min nv 999999999 }, by simp [ev, XbL, XbY, hk, hnv], ?_, fun hh => ?_⟩
  ·rfl
  ·have h9 : nv ≤ 999999999 := by simpa [XbL, XbY, hk, hnv] using hh
   simp [XgO, XbY, hk, hnv]; omega
 ·subst h
  refine Xaf _ _ (Xbl rfl (RV.tmp _) (XaK.mk' [_] [_] (XuZ _) (XaE.refl _ _) (VwL.refl _ _))) ?_
  have hnv := hnv'.out
  refine ⟨{ e with client := min nv 999999999 }, by simp [ev, XbL, XbY, hk, hnv], ?_, fun hh => ?_⟩
  ·rfl
  ·have h9 : nv ≤ 999999999 := by simpa [XbL, XbY, hk, hnv] using hh
   simp [XgO, XbY, hk, hnv]; omega
 ·subst h
  refine Xaf _ _ (Xbl rfl (RV.tmp _) (XaK.mk' [_] [_] (XuZ _) (XaE.refl _ _) (VwL.refl _ _))) ?_
  have hnv := hnv'.out
  refine ⟨{ e with num := min nv 999999999 }, by simp [ev, XbL, XbY, hk, hnv], ?_, fun hh => ?_⟩
  ·rfl
  ·have h9 : nv ≤ 999999999 := by simpa [XbL, XbY, hk, hnv] using hh
   simp [XgO, XbY, hk, hnv]; omega
open Go.Shelf
def XjS : Go.Shelf.Ren := ⟨fun | 285 => 138 | n => n, fun | 37 => 39 | 53 => 38 | 3 => 3 | 4 => 4 | 51 => 237 | 9 => 9 | 5 => 5 | 0 => 0 | n => n, fun | n => n⟩
theorem Xrj : Go.Proofs.Lays.n285 Tryz.prog XjS := {
 mixed := by kernel_rfl
 f285 := Tryz.func138.trans (congrArg some (by kernel_rfl))
 t0 := Tryz.underlying0
 a0 := Tryz.isAgg0
 z0 := Tryz.sizeOf0
 v0 := Tryz.zeroValue0
 t3 := Tryz.underlying3
 a3 := Tryz.isAgg3
 z3 := Tryz.sizeOf3
 v3 := Tryz.zeroValue3
 t4 := Tryz.underlying4
 a4 := Tryz.isAgg4
 z4 := Tryz.sizeOf4
 v4 := Tryz.zeroValue4
 t5 := Tryz.underlying5
 a5 := Tryz.isAgg5
 z5 := Tryz.sizeOf5
 v5 := Tryz.zeroValue5
 t9 := Tryz.underlying9
 a9 := Tryz.isAgg9
 z9 := Tryz.sizeOf9
 v9 := Tryz.zeroValue9
 t37 := Tryz.underlying39
 a37 := Tryz.isAgg39
 z37 := Tryz.sizeOf39
 v37 := Tryz.zeroValue39
 t51 := Tryz.underlying237
 a51 := Tryz.isAgg237
 z51 := Tryz.sizeOf237
 v51 := Tryz.zeroValue237
 t53 := Tryz.underlying38
 a53 := Tryz.isAgg38
 z53 := Tryz.sizeOf38
 v53 := Tryz.zeroValue38 }
open Go.RowKit Go.Sort Go.Lib in
theorem internal_strconv_formatBase10 (blk off cap : Nat) (u : Nat) (d : Array UInt8) (w : World) (hH : Holds (fun (b : UInt8) => Value.int .u8 (b.toNat : Int)) w blk off d) (hu : u < 10 ^ d.size) (hu64 : u < 18446744073709551616) (hsz : d.size < 4611686018427387904) :
  Calls Tryz.prog 138 #[.slice (some ⟨blk, off, none⟩) d.size cap, .int .u64 u] w fun e w' =>
   e = .returned (.tuple #[]) ∧ ∃ (n v' : Nat) (dk : Array UInt8), w' = (putRow (fun (b : UInt8) => Value.int .u8 (b.toNat : Int)) w blk off dk).drewN n ∧ FmtInv d.size u 0 v' dk := Any.internal_strconv_formatBase10 Xrj blk off cap u d w hH hu hu64 hsz
def Xje : Go.Shelf.Ren := ⟨fun | 171 => 65 | 243 => 102 | 246 => 135 | 283 => 136 | 284 => 137 | 285 => 138 | 286 => 139 | 129 => 170 | 317 => 169 | 318 => 171 | 319 => 172 | 320 => 173 | 337 => 190 | 338 => 191 | n => n, fun | 3 => 3 | 9 => 9 | 2 => 2 | 4 => 4 | 171 => 214 | 0 => 0 | 53 => 38 | 37 => 39 | 5 => 5 | 173 => 217 | 212 => 236 | 51 => 237 | 20 => 20 | 213 => 238 | 46 => 178 | 232 => 263 | 233 => 264 | n => n, fun | 17 => 3 | 18 => 6 | 19 => 7 | n => n⟩
theorem XqA : Go.Proofs.LaysM.n171 Tryz.prog Xje := {
 mixed := by kernel_rfl
 f129 := Tryz.func170.trans (congrArg some (by kernel_rfl))
 f171 := Tryz.func65.trans (congrArg some (by kernel_rfl))
 f243 := Tryz.func102.trans (congrArg some (by kernel_rfl))
 f246 := Tryz.func135.trans (congrArg some (by kernel_rfl))
 f283 := Tryz.func136.trans (congrArg some (by kernel_rfl))
 f284 := Tryz.func137.trans (congrArg some (by kernel_rfl))
 f285 := Tryz.func138.trans (congrArg some (by kernel_rfl))
 f286 := Tryz.func139.trans (congrArg some (by kernel_rfl))
 f317 := Tryz.func169.trans (congrArg some (by kernel_rfl))
 f318 := Tryz.func171.trans (congrArg some (by kernel_rfl))
 f319 := Tryz.func172.trans (congrArg some (by kernel_rfl))
 f320 := Tryz.func173.trans (congrArg some (by kernel_rfl))
 f337 := Tryz.func190.trans (congrArg some (by kernel_rfl))
 f338 := Tryz.func191.trans (congrArg some (by kernel_rfl))
 t0 := Tryz.underlying0
 a0 := Tryz.isAgg0
 z0 := Tryz.sizeOf0
 v0 := Tryz.zeroValue0
 t2 := Tryz.underlying2
 a2 := Tryz.isAgg2
 z2 := Tryz.sizeOf2
 v2 := Tryz.zeroValue2
 t3 := Tryz.underlying3
 a3 := Tryz.isAgg3
 z3 := Tryz.sizeOf3
 v3 := Tryz.zeroValue3
 t4 := Tryz.underlying4
 a4 := Tryz.isAgg4
 z4 := Tryz.sizeOf4
 v4 := Tryz.zeroValue4
 t5 := Tryz.underlying5
 a5 := Tryz.isAgg5
 z5 := Tryz.sizeOf5
 v5 := Tryz.zeroValue5
 t9 := Tryz.underlying9
 a9 := Tryz.isAgg9
 z9 := Tryz.sizeOf9
 v9 := Tryz.zeroValue9
 t20 := Tryz.underlying20
 a20 := Tryz.isAgg20
 z20 := Tryz.sizeOf20
 v20 := Tryz.zeroValue20
 t37 := Tryz.underlying39
 a37 := Tryz.isAgg39
 z37 := Tryz.sizeOf39
 v37 := Tryz.zeroValue39
 t46 := Tryz.underlying178
 a46 := Tryz.isAgg178
 z46 := Tryz.sizeOf178
 v46 := Tryz.zeroValue178
 t51 := Tryz.underlying237
 a51 := Tryz.isAgg237
 z51 := Tryz.sizeOf237
 v51 := Tryz.zeroValue237
 t53 := Tryz.underlying38
 a53 := Tryz.isAgg38
 z53 := Tryz.sizeOf38
 v53 := Tryz.zeroValue38
 t171 := Tryz.underlying214
 a171 := Tryz.isAgg214
 z171 := Tryz.sizeOf214
 v171 := Tryz.zeroValue214
 t173 := Tryz.underlying217
 a173 := Tryz.isAgg217
 z173 := Tryz.sizeOf217
 v173 := Tryz.zeroValue217
 t212 := Tryz.underlying236
 a212 := Tryz.isAgg236
 z212 := Tryz.sizeOf236
 v212 := Tryz.zeroValue236
 t213 := Tryz.underlying238
 a213 := Tryz.isAgg238
 z213 := Tryz.sizeOf238
 t232 := Tryz.underlying263
 a232 := Tryz.isAgg263
 z232 := Tryz.sizeOf263
 v232 := Tryz.zeroValue263
 t233 := Tryz.underlying264
 a233 := Tryz.isAgg264
 z233 := Tryz.sizeOf264
 v233 := Tryz.zeroValue264
 g17 := by kernel_rfl
 g18 := by kernel_rfl
 g19 := by kernel_rfl
 i0 := by kernel_rfl
 i2 := by kernel_rfl
 i3 := by kernel_rfl
 i4 := by kernel_rfl
 i5 := by kernel_rfl
 i9 := by kernel_rfl
 i20 := by kernel_rfl
 i37 := by kernel_rfl
 i46 := by kernel_rfl
 i51 := by kernel_rfl
 i53 := by kernel_rfl
 i171 := by kernel_rfl
 i173 := by kernel_rfl
 i212 := by kernel_rfl
 i232 := by kernel_rfl
 i233 := by kernel_rfl
 m17 := by kernel_rfl
 m18 := by kernel_rfl
 m19 := by kernel_rfl }
open Go.RowKit Go.Sort Go.Lib in
theorem strconv_Itoa (n : Int) (h0 : -9223372036854775808 ≤ n) (h1 : n ≤ 9223372036854775807) (w : World) (htab : Lib.TabIs Tryz.prog w "internal/strconv.uint64pow10" .u64 Lib.pow10Tab) :
  Calls Tryz.prog 65 #[.int .i64 n] w fun e w' => e = .returned (.string ⟨(Lib.itoa n).toArray⟩) ∧ ∃ k os, w' = grow (w.drewN k) os := Any.strconv_Itoa XqA n h0 h1 w htab
def XkG : Go.Shelf.Ren := ⟨fun | 171 => 65 | 243 => 102 | 246 => 135 | 283 => 136 | 284 => 137 | 285 => 138 | 286 => 139 | 129 => 170 | 317 => 169 | 318 => 171 | 319 => 172 | 320 => 173 | 337 => 190 | 338 => 191 | n => n, fun | 3 => 3 | 9 => 9 | 2 => 2 | 4 => 4 | 171 => 214 | 0 => 0 | 53 => 38 | 37 => 39 | 5 => 5 | 173 => 217 | 212 => 236 | 51 => 237 | 20 => 20 | 213 => 238 | 46 => 178 | 232 => 263 | 233 => 264 | n => n, fun | 17 => 3 | 18 => 6 | 19 => 7 | n => n⟩
theorem Xsz : Go.Proofs.Lays.n171 Tryz.prog XkG := {
 mixed := by kernel_rfl
 f129 := Tryz.func170.trans (congrArg some (by kernel_rfl))
 f171 := Tryz.func65.trans (congrArg some (by kernel_rfl))
 f243 := Tryz.func102.trans (congrArg some (by kernel_rfl))
 f246 := Tryz.func135.trans (congrArg some (by kernel_rfl))
 f283 := Tryz.func136.trans (congrArg some (by kernel_rfl))
 f284 := Tryz.func137.trans (congrArg some (by kernel_rfl))
 f285 := Tryz.func138.trans (congrArg some (by kernel_rfl))
 f286 := Tryz.func139.trans (congrArg some (by kernel_rfl))
 f317 := Tryz.func169.trans (congrArg some (by kernel_rfl))
 f318 := Tryz.func171.trans (congrArg some (by kernel_rfl))
 f319 := Tryz.func172.trans (congrArg some (by kernel_rfl))
 f320 := Tryz.func173.trans (congrArg some (by kernel_rfl))
 f337 := Tryz.func190.trans (congrArg some (by kernel_rfl))
 f338 := Tryz.func191.trans (congrArg some (by kernel_rfl))
 t0 := Tryz.underlying0
 a0 := Tryz.isAgg0
 z0 := Tryz.sizeOf0
 v0 := Tryz.zeroValue0
 t2 := Tryz.underlying2
 a2 := Tryz.isAgg2
 z2 := Tryz.sizeOf2
 v2 := Tryz.zeroValue2
 t3 := Tryz.underlying3
 a3 := Tryz.isAgg3
 z3 := Tryz.sizeOf3
 v3 := Tryz.zeroValue3
 t4 := Tryz.underlying4
 a4 := Tryz.isAgg4
 z4 := Tryz.sizeOf4
 v4 := Tryz.zeroValue4
 t5 := Tryz.underlying5
 a5 := Tryz.isAgg5
 z5 := Tryz.sizeOf5
 v5 := Tryz.zeroValue5
 t9 := Tryz.underlying9
 a9 := Tryz.isAgg9
 z9 := Tryz.sizeOf9
 v9 := Tryz.zeroValue9
 t20 := Tryz.underlying20
 a20 := Tryz.isAgg20
 z20 := Tryz.sizeOf20
 v20 := Tryz.zeroValue20
 t37 := Tryz.underlying39
 a37 := Tryz.isAgg39
 z37 := Tryz.sizeOf39
 v37 := Tryz.zeroValue39
 t46 := Tryz.underlying178
 a46 := Tryz.isAgg178
 z46 := Tryz.sizeOf178
 v46 := Tryz.zeroValue178
 t51 := Tryz.underlying237
 a51 := Tryz.isAgg237
 z51 := Tryz.sizeOf237
 v51 := Tryz.zeroValue237
 t53 := Tryz.underlying38
 a53 := Tryz.isAgg38
 z53 := Tryz.sizeOf38
 v53 := Tryz.zeroValue38
 t171 := Tryz.underlying214
 a171 := Tryz.isAgg214
 z171 := Tryz.sizeOf214
 v171 := Tryz.zeroValue214
 t173 := Tryz.underlying217
 a173 := Tryz.isAgg217
 z173 := Tryz.sizeOf217
 v173 := Tryz.zeroValue217
 t212 := Tryz.underlying236
 a212 := Tryz.isAgg236
 z212 := Tryz.sizeOf236
 v212 := Tryz.zeroValue236
 t213 := Tryz.underlying238
 a213 := Tryz.isAgg238
 z213 := Tryz.sizeOf238
 t232 := Tryz.underlying263
 a232 := Tryz.isAgg263
 z232 := Tryz.sizeOf263
 v232 := Tryz.zeroValue263
 t233 := Tryz.underlying264
 a233 := Tryz.isAgg264
 z233 := Tryz.sizeOf264
 v233 := Tryz.zeroValue264
 g17 := by kernel_rfl
 g18 := by kernel_rfl
 g19 := by kernel_rfl }
open Go.RowKit Go.Sort Go.Lib in
theorem strconv_Itoa_small (i : Nat) (hi : i < 100) (w : World) :
  Calls Tryz.prog 65 #[.int .i64 i] w fun e w' => e = .returned (.string ⟨(Lib.decDigits i).toArray⟩) ∧ w' = w := Any.strconv_Itoa_small Xsz i hi w
def Xky : Go.Shelf.Ren := ⟨fun | 219 => 119 | 217 => 153 | 225 => 154 | 224 => 155 | 267 => 156 | 266 => 181 | 314 => 182 | n => n, fun | 9 => 9 | 3 => 3 | 4 => 4 | 5 => 5 | 46 => 178 | 146 => 244 | 51 => 237 | n => n, fun | 1 => 2 | n => n⟩
theorem Xrl : Go.Proofs.Lays.n219 Tryz.prog Xky := {
 mixed := by kernel_rfl
 f217 := Tryz.func153.trans (congrArg some (by kernel_rfl))
 f219 := Tryz.func119.trans (congrArg some (by kernel_rfl))
 f224 := Tryz.func155.trans (congrArg some (by kernel_rfl))
 f225 := Tryz.func154.trans (congrArg some (by kernel_rfl))
 f266 := Tryz.func181.trans (congrArg some (by kernel_rfl))
 f267 := Tryz.func156.trans (congrArg some (by kernel_rfl))
 f314 := Tryz.func182.trans (congrArg some (by kernel_rfl))
 t3 := Tryz.underlying3
 a3 := Tryz.isAgg3
 z3 := Tryz.sizeOf3
 v3 := Tryz.zeroValue3
 t4 := Tryz.underlying4
 a4 := Tryz.isAgg4
 z4 := Tryz.sizeOf4
 v4 := Tryz.zeroValue4
 t5 := Tryz.underlying5
 a5 := Tryz.isAgg5
 z5 := Tryz.sizeOf5
 v5 := Tryz.zeroValue5
 t9 := Tryz.underlying9
 a9 := Tryz.isAgg9
 z9 := Tryz.sizeOf9
 v9 := Tryz.zeroValue9
 t46 := Tryz.underlying178
 a46 := Tryz.isAgg178
 z46 := Tryz.sizeOf178
 v46 := Tryz.zeroValue178
 t51 := Tryz.underlying237
 a51 := Tryz.isAgg237
 z51 := Tryz.sizeOf237
 v51 := Tryz.zeroValue237
 t146 := Tryz.underlying244
 a146 := Tryz.isAgg244
 z146 := Tryz.sizeOf244
 v146 := Tryz.zeroValue244
 g1 := by kernel_rfl }
open Go.RowKit Go.Lib in
theorem stringslite_Index_one (s : ByteArray) (c : UInt8) (w : World) :
  Calls Tryz.prog 119 #[.string s, .string ⟨#[c]⟩] w fun e w' => e = .returned (.int .i64 (Lib.indexByte s.data.toList c)) ∧ w' = w := Any.stringslite_Index_one Xrl s c w
section
variable {P : Program} {Δ : List Deferred} {V O : Nat → Prop} {w0 w w' : World} {H H' D : List Hp} {T T' : List AV} {a : Act} {o : Oper} {K : List AV → List Hp → Prop} {Q : XcS}
theorem XlA {l : List Oper} (hc : XlM l = true) (h : dr P H l.toArray l T fun T' => Q .normal T' H) (rel : Rel Δ V O w0 H T a w) : wpAny P .any l.toArray (lift Δ V O w0 Q) l.toArray.size (Array.replicate l.toArray.size false) a w := by
 have hr := Xh2 hc
 obtain ⟨es, -, hE, hfin⟩ := XrM (ops := l.toArray) l T l 0 (fun _ => .top) rfl h
 have hfin' : Q .normal (Xfd l es T l.length) H := hfin
 have key : ∀ (fuel : Nat) (listed : Array Bool) (a : Act) (w : World), listed.size = l.length →
   (∀ j q, l[j]? = some q → listed.getD j false = true → ∀ e ∈ q.after, listed.getD e.on false = true) → cnt (fun j => listed.getD j false) l.length ≤ fuel →
   Rel Δ V O w0 H (Xc3 l es T (fun j => listed.getD j false) l.length) a w → wpAny P .any l.toArray (lift Δ V O w0 Q) fuel listed a w := by
  intro fuel
  induction fuel with
  | zero =>
   intro listed a w hsz hcl hcnt rel
   have hall := XfV _ _ (Nat.le_zero.1 hcnt)
   refine ⟨?_, _, H, rel, ?_⟩
   ·unfold Region.ready
    rw [List.filter_eq_nil_iff]
    intro i hi
    simp only [List.size_toArray, List.mem_range] at hi
    have := hall i hi
    have hi' : i < listed.size := by omega
    simp [Array.getD, hi'] at this ⊢
    simp [this]
   ·rw [XdF l es T _ _ hall]; exact hfin'
  | succ fuel ih =>
   intro listed a w hsz hcl hcnt rel
   have hget : ∀ i, i < l.length → listed.getD i true = listed.getD i false := fun i hi => by
    have hi' : i < listed.size := by omega
    simp [Array.getD, hi']
   refine ⟨fun hnil => ?_, fun i hi => ?_⟩
   ·-- all are listed
    have hall : ∀ j, j < l.length → listed.getD j false = true := by
     intro j
     induction j using Nat.strongRecOn with
     | _ j ihj =>
      intro hj
      cases hs : listed.getD j false with
      | true => rfl
      | false =>
       exfalso
       unfold Region.ready at hnil
       rw [List.filter_eq_nil_iff] at hnil
       have := hnil j (by simpa using hj)
       apply this
       have hlj : l[j]? = some l[j] := by simp [hj]
       rw [hget j hj, hs]
       simp only [Bool.not_false, Bool.true_and, List.getElem?_toArray, hlj, Option.map_some, Option.getD_some]
       rw [Array.all_eq_true_iff_forall_mem]
       intro e he
       have h1 := hr.after j _ hlj e he
       rw [ihj e.on h1.2 (by omega)]
       simp
    exact ⟨_, H, rel, by rw [XdF l es T _ _ hall]; exact hfin'⟩
   ·unfold Region.ready at hi
    rw [List.mem_filter] at hi
    obtain ⟨hil, hrd⟩ := hi
    simp only [List.size_toArray, List.mem_range] at hil
    have hli : l[i]? = some l[i] := by simp [hil]
    rw [hget i hil] at hrd
    simp only [List.getElem?_toArray, hli, Option.map_some, Option.getD_some, Bool.and_eq_true, Bool.not_eq_true', Array.all_eq_true_iff_forall_mem] at hrd
    obtain ⟨hSi, haf⟩ := hrd
    have haf' : ∀ e ∈ l[i].after, listed.getD e.on false = true := fun e he => by
     have h1 := haf e he
     have h2 := hr.after i _ hli e he
     simpa [h2.1] using h1
    generalize ho : l[i] = o at hli haf'
    have hlook := XnM hr es T (fun j => listed.getD j false) hcl i o hli hSi haf'
    have hops : OK V H (ev (Xfd l es T i)) o a w := by
     have h0 := rel.oks o
     refine ⟨h0.hok, fun x hx => ?_, h0.vlt, h0.gw⟩
     have := h0.ops x hx
     rw [XrZ (T2 := Xfd l es T i) (fun t ht => hlook t (List.mem_append_left _ (List.mem_filterMap.2 ⟨x, by simpa using hx, by rw [ht]⟩)))] at this
     exact this
    have hnext : ∀ w' a', Rel Δ V O w0 H (Xb8 (Xc3 l es T (fun j => listed.getD j false) l.length) o.dst (es i)) a' w' → wpAny P .any l.toArray (lift Δ V O w0 Q) fuel (listed.setIfInBounds i true) a' w' := by
     intro w' a' hrel
     have h1 : (listed.setIfInBounds i true).getD i false = true := by
      have : i < listed.size := by omega
      simp [Array.getD, this]
     have h2 : ∀ j, j ≠ i → (listed.setIfInBounds i true).getD j false = listed.getD j false := fun j hj => by
      simp only [Array.getD_eq_getD_getElem?]
      rw [Array.getElem?_setIfInBounds_ne (fun e => hj e.symm)]
     refine ih _ _ _ (by simpa using hsz) (fun j q hj hs e he => ?_) ?_ ?_
     ·by_cases hji : j = i
      ·subst hji
       rw [hli] at hj; cases hj
       have h3 := (hr.after j _ hli e he).2
       rw [h2 _ (by omega)]; exact haf' e he
      ·rw [h2 j hji] at hs
       have h3 := hcl j q hj hs e he
       by_cases hei : e.on = i
       ·rw [hei]; exact h1
       ·rw [h2 _ hei]; exact h3
     ·have := XoI (fun j => listed.getD j false) (fun j => (listed.setIfInBounds i true).getD j false) (fun j hj => by
       by_cases hji : j = i
       ·subst hji; exact h1
       ·show (listed.setIfInBounds i true).getD j false = true
        rw [h2 j hji]; exact hj) i hSi h1 l.length hil
      omega
     ·rw [← Xgm hr es T _ (fun j => (listed.setIfInBounds i true).getD j false) i o hli hSi h1 h2]; exact hrel
    unfold wpOp
    simp only [List.getElem?_toArray, hli]
    rcases hE i o (Nat.zero_le _) hli with ⟨hg, he⟩ | ⟨j, want, t, p, av, hg, hd, hp, he0, he⟩
    ·rw [if_pos (by simp [Region.wanted, hg])]
     exact .inl (he V a w _ _ hops fun v w' hE' hd => hnext _ _ ((rel.quiet hE').put _ hd))
    ·have htl : t ∈ looks l o := by
      refine List.mem_append_right _ ?_
      rw [hg]
      simp only [List.getElem?_toArray] at hd
      simp only [hd]; simp
     have hgd : (Xc3 l es T (fun j => listed.getD j false) l.length).getD t .top = (Xfd l es T i).getD t .top := by
      simp only [List.getD, hlook t htl]
     rw [Xe4 rel hg hd (by rw [hgd]; exact hp)]
     cases hpb : p with
     | true =>
      rw [if_pos rfl]
      exact .inl (he hpb V a w _ _ hops.strip fun v w' hE' hd => hnext _ _ ((rel.quiet hE').put _ (by rw [he0, Den]; exact ⟨fun _ => hd, (fun h => by rw [hpb] at h; cases h)⟩)))
     | false =>
      rw [if_neg (by simp)]
      exact hnext _ _ (rel.put _ (by rw [he0, Den]; exact ⟨(fun h => by rw [hpb] at h; cases h), fun _ => rfl⟩))
 have hrep : ∀ j, (Array.replicate l.length false).getD j false = false := fun j => by simp [Array.getD]
 refine key _ _ a w (by simp) (fun j q _ hs => ?_) ?_ ?_
 ·rw [List.size_toArray, hrep j] at hs; cases hs
 ·have : ∀ k, cnt (fun j => (Array.replicate l.toArray.size false).getD j false) k ≤ k := fun k => by
   induction k with
   | zero => simp [cnt]
   | succ k ih => simp only [cnt]; split <;> omega
  simpa using this l.length
 ·have : Xc3 l es T (fun j => (Array.replicate l.toArray.size false).getD j false) l.length = T := by
   have : ∀ k, Xc3 l es T (fun j => (Array.replicate l.toArray.size false).getD j false) k = T := fun k => by
    induction k with
    | zero => rfl
    | succ k ih => simp only [Xc3]; rw [if_neg (by rw [List.size_toArray, hrep]; simp)]; exact ih
   exact this _
  rw [this]; exact rel
def Xe9 (o : Oper) : Oper := { o with after := o.after.filter (Region.binds .any) }
theorem XgA (l : List Oper) (listed : Array Bool) : Region.ready .any (l.map Xe9).toArray listed = Region.ready .any l.toArray listed := by
 unfold Region.ready
 simp only [List.size_toArray, List.length_map, List.getElem?_toArray, List.getElem?_map, Option.map_map]
 congr 1
 funext i
 cases hi : l[i]? with
 | none => rfl
 | some o =>
  simp only [Option.map_some, Option.getD_some, Function.comp, Xe9]
  congr 1
  rw [Bool.eq_iff_iff]
  simp only [Array.all_eq_true_iff_forall_mem, Array.mem_filter]
  constructor
  ·intro h e he
   cases hb : Region.binds .any e with
   | false => rfl
   | true => have := h e ⟨he, hb⟩; rw [hb] at this; exact this
  ·intro h e he
   exact h e he.1
theorem XhY (l : List Oper) (tmps : Array Value) : yielded (l.map Xe9).toArray tmps = yielded l.toArray tmps := by
 funext j
 unfold yielded
 simp only [List.getElem?_toArray, List.getElem?_map]
 cases l[j]? <;> rfl
theorem XdG {Q : Exit → Act → World → Prop} (l : List Oper) : ∀ (fuel : Nat) (listed : Array Bool) (a : Act) (w : World), wpAny P .any (l.map Xe9).toArray Q fuel listed a w → wpAny P .any l.toArray Q fuel listed a w
 | 0, listed, a, w, h => by
  unfold wpAny at h ⊢
  rw [XgA] at h; exact h
 | fuel + 1, listed, a, w, h => by
  unfold wpAny at h ⊢
  rw [XgA] at h
  refine ⟨h.1, fun i hi => ?_⟩
  have h2 := h.2 i hi
  unfold wpOp at h2 ⊢
  rw [XhY] at h2
  simp only [List.getElem?_toArray, List.getElem?_map] at h2 ⊢
  cases hi2 : l[i]? with
  | none => rw [hi2] at h2; exact XdG l fuel _ _ _ h2
  | some o =>
   rw [hi2] at h2
   simp only [Option.map_some] at h2 ⊢
   have hw : Region.wanted (Xe9 o) (yielded l.toArray a.tmps) = Region.wanted o (yielded l.toArray a.tmps) := rfl
   rw [hw] at h2
   split at h2
   ·rename_i hc
    rw [if_pos hc]
    rcases h2 with h2 | h2
    ·exact .inl (Oper.wp_mono (fun a w h => XdG l fuel _ a w h) h2)
    ·exact .inr h2
   ·rename_i hc
    rw [if_neg hc]
    exact XdG l fuel _ _ _ h2
theorem XiR {ρ : Operand → AV} {av : AV} (h : Evl P o ρ H av) : Evl P (Xe9 o) ρ H av := fun V a w Kc Q ok hK => h V a w Kc Q ⟨ok.hok, ok.ops, ok.vlt, ok.gw⟩ hK
theorem Xln (l : List Oper) : ∀ (rest : List Oper) (T : List AV) (fin : List AV → Prop), dr P H l.toArray rest T fin → dr P H (l.map Xe9).toArray (rest.map Xe9) T fin
 | [], T, fin, h => h
 | o :: rest, T, fin, h => by
  obtain ⟨e, he, hr⟩ := h
  refine ⟨e, ?_, Xln l rest _ fin hr⟩
  rcases he with h1 | ⟨j, want, t, p, av, g1, g2, g3, g4, g5⟩
  ·exact .inl ⟨h1.1, XiR h1.2⟩
  ·refine .inr ⟨j, want, t, p, av, g1, ?_, g3, g4, fun hp => XiR (g5 hp)⟩
   rw [← g2]
   simp only [List.getElem?_toArray, List.getElem?_map]
   cases l[j]? <;> rfl
theorem XlD {id : Nat} {l : List Oper} (hm : P.follows .mixedOrders = true) (hc : XlM (l.map Xe9) = true) (h : dr P H l.toArray l T fun T' => Q .normal T' H) : awp P (.region id l.toArray true) Q T H := by
 refine Xgt hm fun Δ V O w0 a w rel => ?_
 have := XdG l _ _ _ _ (XlA (Q := Q) hc (Xln l l T _ h) rel)
 simpa only [List.size_toArray, List.length_map] using this
end
end Go.Proofs.YtdpobjakdplljaaGreatDoor
