import Derived.Test.YtkhhlmonhapmaaaGreatDoorW37
import Derived.Test.YtkhhlmonhapmaaaGreatDoorW14
import Derived.Test.YtkhhlmonhapmaaaGreatDoorW11
/- The program's lexer: pattern. -/
namespace Go.Proofs.YtkhhlmonhapmaaaGreatDoor
open Go.RowKit
set_option linter.unusedSimpArgs false
set_option linter.unusedVariables false
theorem bcells_snoc (out : List UInt8) (b : UInt8) : Lib.byteCells out ++ [.int .u8 b.toNat] = Lib.byteCells (out ++ [b]) := by simp [Lib.byteCells]
set_option maxRecDepth 100000 in
set_option maxHeartbeats 8000000 in
theorem pattern_c (l : List UInt8) (w : World) (h0 : 0 < l.length) (hl : l.length ≤ 100000) : Calls Tryz.prog 121 #[.string (bs l)] w fun e w' => e = .returned (quoR (sla (l.drop 1))) ∧ Ext w w' := by
  go_enter Tryz.func121, Tryz.ntmps121
  go_wp2_with fail
  go_loopw [6] (fun i wr => ∃ (k : Nat) (out : List UInt8), 1 ≤ k ∧ k ≤ l.length ∧ i = .int .i64 k ∧ Lib.IsBuilder 108 5 w.heap.size w.heap.size (Lib.byteCells out) wr ∧ Ext w wr ∧ out.length ≤ k ∧ Hid (sla (l.drop 1) = (sla (l.drop k)).map fun x => (out ++ x.1, (k - 1) + x.2))) (fun i _ => l.length - (intOf i).toNat)
  case atStart =>
    refine ⟨1, [], Nat.le_refl _, h0, rfl, .inl ⟨Nat.le_refl _, .slice none 0 0, by unfold World.alloc; exact Array.getElem?_push_size, ⟨rfl, .inl ⟨rfl, rfl⟩⟩, by intro h; cases h⟩, Ext.al _ _, Nat.zero_le _, Lib.hid (by cases sla (l.drop 1) <;> simp)⟩
  case round =>
    obtain ⟨k, out, h1, hk, rfl, hB, hE, hol, hQ⟩ := hrel
    have hz : w.heap.size ≤ wr.heap.size := hE.size
    have hbl : (Lib.byteCells out).length = out.length := by simp [Lib.byteCells]
    by_cases hlt : k < l.length
    · have hd := Lib.hid (drop_cons hlt)
      by_cases h47 : l[k].toNat = 47
      · have hQ2 : Hid (sla (l.drop 1) = some (out, k)) := Lib.hid (by rw [hQ.out, hd.out, sla_end _ _ h47]; simp; omega)
        clear hQ hd
        have b1 : ((l[k].toNat : Int) == 47) = true := by rw [beq_iff_eq]; omega
        go_wp2_with (go_at_call 68; refine (Builder_String_any w.heap.size w.heap.size out _ hB hz).mono ?_; rintro e w1 ⟨rfl, hb1⟩)
        go_ret3
        exact ⟨by rw [hQ2.out]; simp [quoR, bs], Below.trans hE hb1⟩
      · have b1 : ((l[k].toNat : Int) == 47) = false := by rw [beq_eq_false_iff_ne]; omega
        by_cases h32 : l[k].toNat < 32
        · have hQ2 : Hid (sla (l.drop 1) = none) := Lib.hid (by rw [hQ.out, hd.out, sla_bad _ _ h32]; rfl)
          clear hQ hd
          go_wp2_with fail
          go_ret3
          exact ⟨by rw [hQ2.out]; simp [quoR, bs_nil], hE⟩
        · by_cases h92 : l[k].toNat = 92
          · have b2 : ((l[k].toNat : Int) == 92) = true := by rw [beq_iff_eq]; omega
            by_cases hlt2 : k + 1 < l.length
            · have hd2 := Lib.hid (drop_cons hlt2)
              by_cases hd32 : l[k + 1].toNat < 32
              · have hQ2 : Hid (sla (l.drop 1) = none) := Lib.hid (by rw [hQ.out, hd.out, hd2.out, sla_bad2 _ _ _ h92 hd32]; rfl)
                clear hQ hd hd2
                have b3 : ((k : Int) + 1 == (l.length : Int)) = false := by rw [beq_eq_false_iff_ne]; omega
                go_wp2_with fail
                go_ret3
                exact ⟨by rw [hQ2.out]; simp [quoR, bs_nil], hE⟩
              · by_cases hd47 : l[k + 1].toNat = 47
                · have hQ2 : Hid (sla (l.drop 1) = (sla (l.drop (k + 2))).map fun x => ((out ++ [l[k + 1]]) ++ x.1, (k + 2 - 1) + x.2)) := Lib.hid (by
                    rw [hQ.out, hd.out, hd2.out, sla_esc _ _ _ h92 hd47, Option.map_map]
                    congr 1
                    funext y
                    simp only [Function.comp, List.append_assoc, List.singleton_append, Prod.mk.injEq, true_and]
                    omega)
                  clear hQ hd hd2
                  have b3 : ((k : Int) + 1 == (l.length : Int)) = false := by rw [beq_eq_false_iff_ne]; omega
                  have b4 : ((l[k + 1].toNat : Int) != 47) = false := by rw [bne_eq_false_iff_eq]; omega
                  clear hd47 h92
                  go_wp2_with fail
                  refine Calls.mono (wbyte w.heap.size w.heap.size (Lib.byteCells out) l[k + 1].toNat _ hB (by omega) hz) ?_
                  rintro e w1 ⟨rfl, hB2, hb2⟩
                  rw [bcells_snoc] at hB2
                  go_wp2_with fail
                  go_roundw
                  case rel => exact ⟨k + 2, out ++ [l[k + 1]], by omega, by omega, by go_num, .inr hB2, Below.trans hE hb2, by simp; omega, hQ2⟩
                  case measure => simp [intOf]; omega
                · have hQ2 : Hid (sla (l.drop 1) = (sla (l.drop (k + 2))).map fun x => ((out ++ [l[k]] ++ [l[k + 1]]) ++ x.1, (k + 2 - 1) + x.2)) := Lib.hid (by
                    rw [hQ.out, hd.out, hd2.out, sla_two _ _ _ h92 (by omega) hd47, Option.map_map]
                    congr 1
                    funext y
                    simp only [Function.comp, List.append_assoc, List.singleton_append, List.cons_append, List.nil_append, Prod.mk.injEq, true_and]
                    omega)
                  clear hQ hd hd2
                  have b3 : ((k : Int) + 1 == (l.length : Int)) = false := by rw [beq_eq_false_iff_ne]; omega
                  have b4 : ((l[k + 1].toNat : Int) != 47) = true := by rw [bne_iff_ne]; omega
                  have e92 : Lib.byteCells out ++ [.int .u8 92] = Lib.byteCells (out ++ [l[k]]) := by rw [← bcells_snoc, h92]; rfl
                  clear hd47 h92
                  go_wp2_with fail
                  refine Calls.mono (wbyte w.heap.size w.heap.size (Lib.byteCells out) 92 _ hB (by omega) hz) ?_
                  rintro e w1 ⟨rfl, hB2, hb2⟩
                  rw [e92] at hB2
                  have hz1 : w.heap.size ≤ w1.heap.size := Nat.le_trans hz hb2.size
                  have hbl1 : (Lib.byteCells (out ++ [l[k]])).length = out.length + 1 := by simp [Lib.byteCells]
                  go_wp2_with fail
                  refine Calls.mono (wbyte w.heap.size w.heap.size (Lib.byteCells (out ++ [l[k]])) l[k + 1].toNat _ (.inr hB2) (by omega) hz1) ?_
                  rintro e w2 ⟨rfl, hB3, hb3⟩
                  rw [bcells_snoc] at hB3
                  go_wp2_with fail
                  go_roundw
                  case rel => exact ⟨k + 2, out ++ [l[k]] ++ [l[k + 1]], by omega, by omega, by go_num, .inr hB3, Below.trans (Below.trans hE hb2) hb3, by simp; omega, hQ2⟩
                  case measure => simp [intOf]; omega
            · have hQ2 : Hid (sla (l.drop 1) = none) := Lib.hid (by rw [hQ.out, hd.out, List.drop_eq_nil_of_le (by omega), sla_last _ h92]; rfl)
              clear hQ hd
              have b3 : ((k : Int) + 1 == (l.length : Int)) = true := by rw [beq_iff_eq]; omega
              go_wp2_with fail
              go_ret3
              exact ⟨by rw [hQ2.out]; simp [quoR, bs_nil], hE⟩
          · have hQ2 : Hid (sla (l.drop 1) = (sla (l.drop (k + 1))).map fun x => ((out ++ [l[k]]) ++ x.1, (k + 1 - 1) + x.2)) := Lib.hid (by
              rw [hQ.out, hd.out, sla_one _ _ h47 (by omega) h92, Option.map_map]
              congr 1
              funext y
              simp only [Function.comp, List.append_assoc, List.singleton_append, Prod.mk.injEq, true_and]
              omega)
            clear hQ hd
            have b2 : ((l[k].toNat : Int) == 92) = false := by rw [beq_eq_false_iff_ne]; omega
            go_wp2_with (go_at_call 130; refine (wbyte w.heap.size w.heap.size (Lib.byteCells out) l[k].toNat _ hB (by omega) hz).mono ?_; rintro e w1 ⟨rfl, hB2, hb2⟩)
            rw [bcells_snoc] at hB2
            go_roundw
            case rel => exact ⟨k + 1, out ++ [l[k]], by omega, by omega, by go_num, .inr hB2, Below.trans hE hb2, by simp; omega, hQ2⟩
            case measure => simp [intOf]; omega
    · have hQ2 : Hid (sla (l.drop 1) = none) := Lib.hid (by rw [hQ.out, List.drop_eq_nil_of_le (by omega), sla_nil]; rfl)
      clear hQ
      go_wp2_with fail
      go_ret3
      exact ⟨by rw [hQ2.out]; simp [quoR, bs_nil], hE⟩
theorem pattern_s (l : List UInt8) (h0 : 0 < l.length) (hl : l.length ≤ 100000) (H : List Hp) : Spec Tryz.prog 121 H [.x (.string (bs l))] (fun r H' => r = .x (quoR (sla (l.drop 1))) ∧ H' = H) :=
  Spec_calls (args := [.string (bs l)]) (fun w => pattern_c l w h0 hl) H
end Go.Proofs.YtkhhlmonhapmaaaGreatDoor
/- The program's lexer: token. -/
namespace Go.Proofs.YtkhhlmonhapmaaaGreatDoor
open Go.RowKit
set_option linter.unusedSimpArgs false
set_option linter.unusedVariables false
theorem WInd_slice_str {P : Program} {o : Oper} {ρ : Operand → AV} {H : List Hp} (t : TypeId) (x : Operand) (lo hi : Option Operand) (l h : Nat) (s : List UInt8) (ho : o.op = .slice t x lo hi none) (hx : ρ x = .x (.string (bs s))) (ht : P.underlying t = some .string)
    (hlo : (lo = none ∧ l = 0) ∨ ∃ y k, lo = some y ∧ ρ y = .x (.int k l)) (hhi : (hi = none ∧ h = s.length) ∨ ∃ y k, hi = some y ∧ ρ y = .x (.int k h)) (h1 : l ≤ h) (h2 : h ≤ s.length) : WInd P o ρ H (.x (.string (bs ((s.take h).drop l)))) := by
  intro V a w r
  have he : (bs s).extract l h = bs ((s.take h).drop l) := by
    apply ByteArray.ext; apply Array.toList_inj.1
    simp [bs, ByteArray.data_extract, List.extract_eq_take_drop, List.drop_take]
  have hrun : ∀ w', (Instr.sliceAt t (.string (bs s)) (lo.map a.eval) (hi.map a.eval) none).run P w' = .ok (.string (bs ((s.take h).drop l))) w' := by
    intro w'
    rw [← he]
    rcases hlo with ⟨rfl, rfl⟩ | ⟨y, k, rfl, hy⟩ <;> rcases hhi with ⟨rfl, rfl⟩ | ⟨z, k', rfl, hz⟩ <;>
      (try rw [Option.map_some, r.evx (by simp [ho, Op.operands]) hy]) <;> (try rw [Option.map_some, r.evx (by simp [ho, Op.operands]) hz]) <;>
      simp [Instr.sliceAt, run_underlying ht, Instr.slice, Instr.sliceBounds, Instr.sliceBound, asIntOf, h1, h2]
  refine ⟨.string (bs ((s.take h).drop l)), fun w' => ?_, by rw [Den]⟩
  simp [execOp, ho, r.evx (by simp [ho, Op.operands]) hx, hrun]
def tokV : Except Int (Int × List UInt8 × Nat) → AV
  | .ok x => .tup [.x (.int .i64 x.1), .x (.string (bs x.2.1)), .x (.int .i64 (x.2.2 : Nat)), .x .nilIface]
  | .error e => .tup [.x (.int .i64 0), .x (.string (bs [])), .x (.int .i64 0), .x (.iface 85 (.int .i64 e))]
set_option maxRecDepth 100000 in
set_option maxHeartbeats 8000000 in
theorem token_cons (c : UInt8) (r : List UInt8) (hl : r.length ≤ 50000) : Spec Tryz.prog 75 [] [.x (.string (bs (c :: r)))] (fun q H' => q = tokV (one (c :: r)) ∧ H' = []) := by
  have ht := isLetter_s c
  have hd := isDigit_s c
  have hw := span_s 118 Tryz.f118 isWrd Tryz.func118 (by decide) rfl isWord_s (c :: r) (by simp; omega)
  have hg := span_s 119 Tryz.f119 isDig Tryz.func119 (by decide) rfl isDigit_s (c :: r) (by simp; omega)
  have hq := quoted_s (c :: r) (by simp) (by simp; omega) []
  have hp := pattern_s (c :: r) (by simp) (by simp; omega) []
  simp only [List.drop_succ_cons, List.drop_zero] at hq hp
  have hwl := spn_le isWrd (c :: r)
  have hgl := spn_le isDig (c :: r)
  simp only [List.length_cons] at hwl hgl
  refine Spec_of Tryz.func75 rfl ?_
  simp only [Tryz.ntmps75, List.length_cons, List.length_nil, List.replicate_succ, List.replicate_zero, List.cons_append, List.nil_append, Nat.reduceAdd, Nat.reduceSub]
  (repeat' (first | with_reducible (first | refine awp_seq ?_ | refine awp_region ?_ | refine awp_block ?_ | refine awp_ret ?_ | refine awp_skip ?_ | refine awpL_nil ?_ | refine thenA_normal ?_ | refine thenA_ret ?_ | refine inBlockA_normal ?_ | refine inBlockA_ret ?_) | (refine awp_cond _ rfl (fun h => ?_) (fun h => ?_) <;> ((try (simp only [whn] at h)); skip)) | ((first | apply awpL_evl2 rfl | apply awpL_g2 _ _ rfl rfl rfl); (case h => ((try (intro (hp : (_ : Bool) = true); ((try simp only [Bool.and_eq_true, Bool.not_eq_true'] at hp); (try simp only [hp, wte]); (try simp only [whn] at hp)))); (first | (apply Evl_k 0 rfl; (first | exact Evl_mv _ rfl | exact Evl_as _ rfl)) | (apply Evl_k 1 rfl; (first | exact Evl_or _ _ _ _ _ rfl rfl rfl rfl | exact Evl_and' _ _ _ _ _ rfl rfl rfl rfl)) | (apply Evl_k 8 rfl; (exact Evl_index_str _ _ _ _ _ 0 _ rfl rfl rfl (by kernel_rfl) rfl (by simp; first | done | fail))) | (apply Evl_k 11 rfl; (first | exact Evl_call 116 Tryz.f116 _ _ rfl rfl Tryz.func116 (by decide) rfl (VwL.refl _ _) (ht) | exact Evl_call 119 Tryz.f119 _ _ rfl rfl Tryz.func119 (by decide) rfl (VwL.refl _ _) (hd) | exact Evl_call 117 Tryz.f117 _ _ rfl rfl Tryz.func117 (by decide) rfl (VwL.refl _ _) (hw) | exact Evl_call 117 Tryz.f117 _ _ rfl rfl Tryz.func117 (by decide) rfl (VwL.refl _ _) (hg) | exact Evl_call 120 Tryz.f120 _ _ rfl rfl Tryz.func120 (by decide) rfl (VwL.refl _ _) (hq) | exact Evl_call 121 Tryz.f121 _ _ rfl rfl Tryz.func121 (by decide) rfl (VwL.refl _ _) (hp))) | (apply Evl_x; (case hs => (intro _ _ h; cases h)); (case hx => rfl); (case hrun => (intro w; simp [wtb, AV.val, go_sem]; skip; rfl)))))); (case hT => ((try simp only [wtn]); rfl))) | fail))
  · refine awpF_drawn mixed ?_
    (first | (apply awpF_take 0 rfl rfl (by kernel_rfl) (by intro c T H hp; simp [thenA, inBlockA, jumpA, endA] at hp); (case h => ((exact WInd_mv _ rfl)))) | fail); (apply awpF_cong; (case hT => ((try simp (disch := first | omega | fail) only [wtn, List.drop_zero, List.append_eq, List.foldl_cons, List.foldl_nil, List.map_cons, List.map_nil, Nat.reduceAdd, Nat.reduceMul, Nat.reduceSub, ↓reduceIte, Nat.reduceEqDiff]); rfl)); (case hH => rfl)); (first | (apply awpF_take 1 rfl rfl (by kernel_rfl) (by intro c T H hp; simp [thenA, inBlockA, jumpA, endA] at hp); (case h => ((exact WInd_mv _ rfl)))) | fail); (apply awpF_cong; (case hT => ((try simp (disch := first | omega | fail) only [wtn, List.drop_zero, List.append_eq, List.foldl_cons, List.foldl_nil, List.map_cons, List.map_nil, Nat.reduceAdd, Nat.reduceMul, Nat.reduceSub, ↓reduceIte, Nat.reduceEqDiff]); rfl)); (case hH => rfl)); (first | (apply awpF_take 2 rfl rfl (by kernel_rfl) (by intro c T H hp; simp [thenA, inBlockA, jumpA, endA] at hp); (case h => (exact WInd_slice_str _ _ _ _ _ _ _ rfl rfl (by kernel_rfl) (by first | exact .inl ⟨rfl, rfl⟩ | fail) (by first | exact .inr ⟨_, _, rfl, rfl⟩ | fail) (by simp; done) (by simp; first | omega | fail)))) | fail); (apply awpF_cong; (case hT => ((try simp (disch := first | omega | fail) only [wtn, List.drop_zero, List.append_eq, List.foldl_cons, List.foldl_nil, List.map_cons, List.map_nil, Nat.reduceAdd, Nat.reduceMul, Nat.reduceSub, ↓reduceIte, Nat.reduceEqDiff]); rfl)); (case hH => rfl)); (first | (apply awpF_take 3 rfl rfl (by kernel_rfl) (by intro c T H hp; simp [thenA, inBlockA, jumpA, endA] at hp); (case h => ((exact WInd_mv _ rfl)))) | fail); (apply awpF_cong; (case hT => ((try simp (disch := first | omega | fail) only [wtn, List.drop_zero, List.append_eq, List.foldl_cons, List.foldl_nil, List.map_cons, List.map_nil, Nat.reduceAdd, Nat.reduceMul, Nat.reduceSub, ↓reduceIte, Nat.reduceEqDiff]); rfl)); (case hH => rfl))
    refine awpF_go ?_
    (refine awpG_1 4 (by decide +kernel) rfl rfl ?_; (first | (apply Stp_evl; (case h => ((apply Evl_k 0 rfl; (exact Evl_as _ rfl)))); (apply awpG_cong; (case hT => ((try simp only [wtn]); rfl)); (case hH => rfl))) | fail)); (refine awpG_1 5 (by decide +kernel) rfl rfl ?_; (first | (apply Stp_evl; (case h => ((apply Evl_k 0 rfl; (exact Evl_as _ rfl)))); (apply awpG_cong; (case hT => ((try simp only [wtn]); rfl)); (case hH => rfl))) | fail)); (refine awpG_1 6 (by decide +kernel) rfl rfl ?_; (first | (apply Stp_evl; (case h => ((apply Evl_k 0 rfl; (exact Evl_as _ rfl)))); (apply awpG_cong; (case hT => ((try simp only [wtn]); rfl)); (case hH => rfl))) | fail)); (refine awpG_1 7 (by decide +kernel) rfl rfl ?_; (first | (apply Stp_evl; (case h => ((apply Evl_k 0 rfl; (exact Evl_as _ rfl)))); (apply awpG_cong; (case hT => ((try simp only [wtn]); rfl)); (case hH => rfl))) | fail))
    refine awpG_done (by decide +kernel) ?_
    (repeat' (first | with_reducible (first | refine awp_ret ?_ | refine thenA_normal ?_ | refine thenA_ret ?_ | refine inBlockA_ret ?_) | fail))
    rw [one_word c r (by assumption)]
    exact endA_ret _ _ (Res4 rfl (RV.tmp _) (RV.tmp _) (RV.tmp _) (RV.tmp _) (Weak.mk' [] [] (List.Perm.refl _) (VwHs.refl _ _) (VwL.refl _ _))) ⟨by (simp only [tokV]; (first | rfl | fail)), rfl⟩
  · rw [one_numx c r (by assumption) (by assumption) (by first | omega | fail)]
    exact endA_ret _ _ (Res4 rfl (RV.tmp _) (RV.tmp _) (RV.tmp _) (RV.tmp _) (Weak.mk' [] [] (List.Perm.refl _) (VwHs.refl _ _) (VwL.refl _ _))) ⟨by (simp only [tokV]; (first | rfl | fail)), rfl⟩
  · skip
    refine awpF_drawn mixed ?_
    (first | (apply awpF_take 0 rfl rfl (by kernel_rfl) (by intro c T H hp; simp [thenA, inBlockA, jumpA, endA] at hp); (case h => ((exact WInd_mv _ rfl)))) | fail); (apply awpF_cong; (case hT => ((try simp (disch := first | omega | fail) only [wtn, List.drop_zero, List.append_eq, List.foldl_cons, List.foldl_nil, List.map_cons, List.map_nil, Nat.reduceAdd, Nat.reduceMul, Nat.reduceSub, ↓reduceIte, Nat.reduceEqDiff]); rfl)); (case hH => rfl)); (first | (apply awpF_take 1 rfl rfl (by kernel_rfl) (by intro c T H hp; simp [thenA, inBlockA, jumpA, endA] at hp); (case h => ((exact WInd_mv _ rfl)))) | fail); (apply awpF_cong; (case hT => ((try simp (disch := first | omega | fail) only [wtn, List.drop_zero, List.append_eq, List.foldl_cons, List.foldl_nil, List.map_cons, List.map_nil, Nat.reduceAdd, Nat.reduceMul, Nat.reduceSub, ↓reduceIte, Nat.reduceEqDiff]); rfl)); (case hH => rfl)); (first | (apply awpF_take 2 rfl rfl (by kernel_rfl) (by intro c T H hp; simp [thenA, inBlockA, jumpA, endA] at hp); (case h => (exact WInd_slice_str _ _ _ _ _ _ _ rfl rfl (by kernel_rfl) (by first | exact .inl ⟨rfl, rfl⟩ | fail) (by first | exact .inr ⟨_, _, rfl, rfl⟩ | fail) (by simp; done) (by simp; first | omega | fail)))) | fail); (apply awpF_cong; (case hT => ((try simp (disch := first | omega | fail) only [wtn, List.drop_zero, List.append_eq, List.foldl_cons, List.foldl_nil, List.map_cons, List.map_nil, Nat.reduceAdd, Nat.reduceMul, Nat.reduceSub, ↓reduceIte, Nat.reduceEqDiff]); rfl)); (case hH => rfl)); (first | (apply awpF_take 3 rfl rfl (by kernel_rfl) (by intro c T H hp; simp [thenA, inBlockA, jumpA, endA] at hp); (case h => ((exact WInd_mv _ rfl)))) | fail); (apply awpF_cong; (case hT => ((try simp (disch := first | omega | fail) only [wtn, List.drop_zero, List.append_eq, List.foldl_cons, List.foldl_nil, List.map_cons, List.map_nil, Nat.reduceAdd, Nat.reduceMul, Nat.reduceSub, ↓reduceIte, Nat.reduceEqDiff]); rfl)); (case hH => rfl))
    refine awpF_go ?_
    (refine awpG_1 4 (by decide +kernel) rfl rfl ?_; (first | (apply Stp_evl; (case h => ((apply Evl_k 0 rfl; (exact Evl_as _ rfl)))); (apply awpG_cong; (case hT => ((try simp only [wtn]); rfl)); (case hH => rfl))) | fail)); (refine awpG_1 5 (by decide +kernel) rfl rfl ?_; (first | (apply Stp_evl; (case h => ((apply Evl_k 0 rfl; (exact Evl_as _ rfl)))); (apply awpG_cong; (case hT => ((try simp only [wtn]); rfl)); (case hH => rfl))) | fail)); (refine awpG_1 6 (by decide +kernel) rfl rfl ?_; (first | (apply Stp_evl; (case h => ((apply Evl_k 0 rfl; (exact Evl_as _ rfl)))); (apply awpG_cong; (case hT => ((try simp only [wtn]); rfl)); (case hH => rfl))) | fail)); (refine awpG_1 7 (by decide +kernel) rfl rfl ?_; (first | (apply Stp_evl; (case h => ((apply Evl_k 0 rfl; (exact Evl_as _ rfl)))); (apply awpG_cong; (case hT => ((try simp only [wtn]); rfl)); (case hH => rfl))) | fail))
    refine awpG_done (by decide +kernel) ?_
    (repeat' (first | with_reducible (first | refine awp_ret ?_ | refine thenA_normal ?_ | refine thenA_ret ?_ | refine inBlockA_ret ?_) | fail))
    rw [one_num c r (by assumption) (by assumption) (by first | omega | fail)]
    exact endA_ret _ _ (Res4 rfl (RV.tmp _) (RV.tmp _) (RV.tmp _) (RV.tmp _) (Weak.mk' [] [] (List.Perm.refl _) (VwHs.refl _ _) (VwL.refl _ _))) ⟨by (simp only [tokV]; (first | rfl | fail)), rfl⟩
  · skip
    cases hqq : quo r with
    | none =>
      simp only [quoR]
      (repeat' (first | with_reducible (first | refine awp_seq ?_ | refine awp_region ?_ | refine awp_ret ?_ | refine awpL_nil ?_ | refine thenA_normal ?_ | refine thenA_ret ?_ | refine inBlockA_ret ?_) | (refine awp_cond _ rfl (fun h => ?_) (fun h => ?_) <;> first | (exact absurd h (by decide)) | ((try (simp only [] at h)); skip)) | ((apply awpL_evl2 rfl); (case h => ((first | (apply Evl_k 0 rfl; (first | exact Evl_mv _ rfl | exact Evl_as _ rfl)) | (apply Evl_x; (case hs => (intro _ _ h; cases h)); (case hx => rfl); (case hrun => (intro w; simp [wtb, AV.val, go_sem]; skip; rfl)))))); (case hT => ((try simp only [wtn]); rfl))) | fail))
      rw [one_str c r (by assumption) (by assumption) (by omega)]
      simp only [hqq]
      exact endA_ret _ _ (Res4 rfl (RV.tmp _) (RV.tmp _) (RV.tmp _) (RV.tmp _) (Weak.mk' [] [] (List.Perm.refl _) (VwHs.refl _ _) (VwL.refl _ _))) ⟨by (simp only [tokV]; (first | rfl | fail)), rfl⟩
    | some x =>
      simp only [quoR]
      (repeat' (first | with_reducible (first | refine awp_seq ?_ | refine awp_region ?_ | refine awp_ret ?_ | refine awp_skip ?_ | refine awpL_nil ?_ | refine thenA_normal ?_ | refine thenA_ret ?_ | refine inBlockA_ret ?_) | (refine awp_cond _ rfl (fun h => ?_) (fun h => ?_) <;> first | (exact absurd h (by decide)) | ((try (simp only [] at h)); skip)) | ((apply awpL_evl2 rfl); (case h => ((first | (apply Evl_k 0 rfl; (first | exact Evl_mv _ rfl | exact Evl_as _ rfl)) | (apply Evl_x; (case hs => (intro _ _ h; cases h)); (case hx => rfl); (case hrun => (intro w; simp [wtb, AV.val, go_sem]; skip; rfl)))))); (case hT => ((try simp only [wtn]); rfl))) | fail))
      rw [one_str c r (by assumption) (by assumption) (by omega)]
      simp only [hqq]
      exact endA_ret _ _ (Res4 rfl (RV.tmp _) (RV.tmp _) (RV.tmp _) (RV.tmp _) (Weak.mk' [] [] (List.Perm.refl _) (VwHs.refl _ _) (VwL.refl _ _))) ⟨by (simp only [tokV]; (first | rfl | fail)), rfl⟩
  · cases hqq : sla r with
    | none =>
      simp only [quoR]
      (repeat' (first | with_reducible (first | refine awp_seq ?_ | refine awp_region ?_ | refine awp_ret ?_ | refine awpL_nil ?_ | refine thenA_normal ?_ | refine thenA_ret ?_ | refine inBlockA_ret ?_) | (refine awp_cond _ rfl (fun h => ?_) (fun h => ?_) <;> first | (exact absurd h (by decide)) | ((try (simp only [] at h)); skip)) | ((apply awpL_evl2 rfl); (case h => ((first | (apply Evl_k 0 rfl; (first | exact Evl_mv _ rfl | exact Evl_as _ rfl)) | (apply Evl_x; (case hs => (intro _ _ h; cases h)); (case hx => rfl); (case hrun => (intro w; simp [wtb, AV.val, go_sem]; skip; rfl)))))); (case hT => ((try simp only [wtn]); rfl))) | fail))
      rw [one_pat c r (by assumption) (by assumption) (by omega)]
      simp only [hqq]
      exact endA_ret _ _ (Res4 rfl (RV.tmp _) (RV.tmp _) (RV.tmp _) (RV.tmp _) (Weak.mk' [] [] (List.Perm.refl _) (VwHs.refl _ _) (VwL.refl _ _))) ⟨by (simp only [tokV]; (first | rfl | fail)), rfl⟩
    | some x =>
      simp only [quoR]
      (repeat' (first | with_reducible (first | refine awp_seq ?_ | refine awp_region ?_ | refine awp_ret ?_ | refine awp_skip ?_ | refine awpL_nil ?_ | refine thenA_normal ?_ | refine thenA_ret ?_ | refine inBlockA_ret ?_) | (refine awp_cond _ rfl (fun h => ?_) (fun h => ?_) <;> first | (exact absurd h (by decide)) | ((try (simp only [] at h)); skip)) | ((apply awpL_evl2 rfl); (case h => ((first | (apply Evl_k 0 rfl; (first | exact Evl_mv _ rfl | exact Evl_as _ rfl)) | (apply Evl_x; (case hs => (intro _ _ h; cases h)); (case hx => rfl); (case hrun => (intro w; simp [wtb, AV.val, go_sem]; skip; rfl)))))); (case hT => ((try simp only [wtn]); rfl))) | fail))
      rw [one_pat c r (by assumption) (by assumption) (by omega)]
      simp only [hqq]
      exact endA_ret _ _ (Res4 rfl (RV.tmp _) (RV.tmp _) (RV.tmp _) (RV.tmp _) (Weak.mk' [] [] (List.Perm.refl _) (VwHs.refl _ _) (VwL.refl _ _))) ⟨by (simp only [tokV]; (first | rfl | fail)), rfl⟩
  · skip
    refine awpF_drawn mixed ?_
    (first | (apply awpF_take 0 rfl rfl (by kernel_rfl) (by intro c T H hp; simp [thenA, inBlockA, jumpA, endA] at hp); (case h => ((exact WInd_mv _ rfl)))) | fail); (apply awpF_cong; (case hT => ((try simp (disch := first | omega | fail) only [wtn, List.drop_zero, List.append_eq, List.foldl_cons, List.foldl_nil, List.map_cons, List.map_nil, Nat.reduceAdd, Nat.reduceMul, Nat.reduceSub, ↓reduceIte, Nat.reduceEqDiff]); rfl)); (case hH => rfl)); (first | (apply awpF_take 1 rfl rfl (by kernel_rfl) (by intro c T H hp; simp [thenA, inBlockA, jumpA, endA] at hp); (case h => (exact WInd_slice_str _ _ _ _ _ _ _ rfl rfl (by kernel_rfl) (by first | exact .inl ⟨rfl, rfl⟩ | fail) (by first | exact .inr ⟨_, _, rfl, rfl⟩ | fail) (by simp; done) (by simp; first | done | fail)))) | fail); (apply awpF_cong; (case hT => ((try simp (disch := first | omega | fail) only [wtn, List.drop_zero, List.append_eq, List.foldl_cons, List.foldl_nil, List.map_cons, List.map_nil, Nat.reduceAdd, Nat.reduceMul, Nat.reduceSub, ↓reduceIte, Nat.reduceEqDiff]); rfl)); (case hH => rfl))
    refine awpF_go ?_
    (refine awpG_1 2 (by decide +kernel) rfl rfl ?_; (first | (apply Stp_evl; (case h => ((apply Evl_k 0 rfl; (exact Evl_as _ rfl)))); (apply awpG_cong; (case hT => ((try simp only [wtn]); rfl)); (case hH => rfl))) | fail)); (refine awpG_1 3 (by decide +kernel) rfl rfl ?_; (first | (apply Stp_evl; (case h => ((apply Evl_k 0 rfl; (exact Evl_as _ rfl)))); (apply awpG_cong; (case hT => ((try simp only [wtn]); rfl)); (case hH => rfl))) | fail)); (refine awpG_1 4 (by decide +kernel) rfl rfl ?_; (first | (apply Stp_evl; (case h => ((apply Evl_k 0 rfl; (exact Evl_as _ rfl)))); (apply awpG_cong; (case hT => ((try simp only [wtn]); rfl)); (case hH => rfl))) | fail)); (refine awpG_1 5 (by decide +kernel) rfl rfl ?_; (first | (apply Stp_evl; (case h => ((apply Evl_k 0 rfl; (exact Evl_as _ rfl)))); (apply awpG_cong; (case hT => ((try simp only [wtn]); rfl)); (case hH => rfl))) | fail))
    refine awpG_done (by decide +kernel) ?_
    (repeat' (first | with_reducible (first | refine awp_ret ?_ | refine thenA_normal ?_ | refine thenA_ret ?_ | refine inBlockA_ret ?_) | fail))
    rw [one_sign c r (by assumption) (by assumption) (by first | omega | fail)]
    exact endA_ret _ _ (Res4 rfl (RV.tmp _) (RV.tmp _) (RV.tmp _) (RV.tmp _) (Weak.mk' [] [] (List.Perm.refl _) (VwHs.refl _ _) (VwL.refl _ _))) ⟨by (simp only [tokV]; (first | rfl | fail)), rfl⟩
  · rw [one_bad c r (by assumption) (by assumption) (by omega) (by omega) (by first | omega | fail)]
    exact endA_ret _ _ (Res4 rfl (RV.tmp _) (RV.tmp _) (RV.tmp _) (RV.tmp _) (Weak.mk' [] [] (List.Perm.refl _) (VwHs.refl _ _) (VwL.refl _ _))) ⟨by (simp only [tokV]; (first | rfl | fail)), rfl⟩
end Go.Proofs.YtkhhlmonhapmaaaGreatDoor
