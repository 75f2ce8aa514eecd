import Derived.Test.YtdpobjakdplljaaGreatDoorY45
import Derived.Test.YtdpobjakdplljaaGreatDoorY46
import Derived.Test.YtdpobjakdplljaaGreatDoorTie
import Derived.Test.YtdpobjakdplljaaGreatDoorCards
import Derived.SevenTiedAt
/- ConsoleFormats: whatever the arguments, the law returns true and they read as they did. The frame round the walk 'law_walk'. -/
set_option linter.unusedSimpArgs false
set_option linter.unusedVariables false
set_option maxRecDepth 100000
set_option maxHeartbeats 8000000
namespace Go.Proofs.YtdpobjakdplljaaGreatDoor.lawConsoleFormats
open Go.ChangeShapes Go.WideShapes Go.ChangeAt Go.RowKit Go.Joins
open Go.ChangeMaps (open_string shut_string)
theorem own:ownKnob Tryz.prog.godebug=none:=by kernel_rfl
theorem Xon:laidOutB Tryz.prog=true:=by kernel_rfl
theorem Xt1 (os:Os) (started:os.Started) (H:Type) (enc:TypeId × Value→H) (F:Stop.Interp) :
  ReturnsInHanded {} Tryz.checked os 4 .any (fun w args=>((Rows.OpenSpec.upto Rows.consoleFormatsSpec).pre enc Tryz.prog Tryz.f4 [] false w args∧laidMetH Tryz.prog Rows.consoleFormatsUptoRow.laid w)∧sizedMet enc Tryz.prog Tryz.f4 (Rows.OpenSpec.upto Rows.consoleFormatsSpec) false w args)
   (((Rows.OpenSpec.upto Rows.consoleFormatsSpec).at F).post enc Tryz.prog Tryz.f4 false true false false):=by
 refine XfM (C:=Tryz.checked) (s:=(Rows.OpenSpec.upto Rows.consoleFormatsSpec)) (k:=Rows.uptoSmall) rfl (F:=F) (X:=fun w _=>laidMetH Tryz.prog Rows.consoleFormatsUptoRow.laid w) (fun _ _ _ hh h=>h.of_heap hh) own started (by kernel_rfl) Tryz.func4
  (Xpq (enc:=enc) (C:=Tryz.checked) (os:=os) (s:=(Rows.OpenSpec.upto Rows.consoleFormatsSpec)) (k:=Rows.uptoSmall) rfl (X:=fun w _=>laidMetH Tryz.prog Rows.consoleFormatsUptoRow.laid w) false (laidWorldL os Rows.consoleFormatsUptoRow.laid) #[.slice none 0 0,.slice none 0 0] 8 (Xh5 _ _) (by kernel_rfl) (by kernel_rfl) (by kernel_rfl) ([.nil,.nil],[],[]) (by kernel_rfl) rfl (by kernel_rfl) (by kernel_rfl) (Xg3 _ (by kernel_rfl) (by kernel_rfl) (by kernel_rfl))) ?_
 intro W base args ds gs before hval0 hW hcnd hkk hL hS hsz0
 have hgw:=Xmt hL hS
 have hval:∀(j:Nat) t v,Tryz.f4.params[j]?=some t→args[j]?=some v→Value.okWide Tryz.prog W .any base t v:=hval0
 have hsz:(DataW.weightsEach Tryz.prog (Tryz.f4.params.toList++Rows.consoleFormatsSpec.plain.varTypes Tryz.prog) (ds++gs)).all (·≤reachBytes)=true:=hsz0
 have hW':=hW
 obtain ⟨p,q,hA0,hV,rfl,hfz,hnd⟩:=hW
 have hA:DataW.TrodAll enc Tryz.prog W 0 (fun _=>true) true Tryz.f4.params.toList args.toList ds p:=hA0
 rw [Tryz.params4] at hA hval hsz
 obtain ⟨v0,vs0,d0,ds0,p0,q0,hargs,rfl,rfl,h0,r0⟩:=trodAll_cons hA
 obtain ⟨v1,vs1,d1,ds1,p1,q1,rfl,rfl,rfl,h1,r1⟩:=trodAll_cons r0
 obtain ⟨rfl,rfl,rfl⟩:=trodAll_nil r1
 obtain rfl:args=#[v0,v1]:=by cases args;simp_all
 obtain ⟨rfl,rfl⟩:=trodVars_none hV
 have k0:=h0
 have lt0:∀x∈p0,x.block < W.heap.size:=by obtain ⟨m,hm⟩:=k0;exact DataW.trod_lt m _ _ _ hm
 have wt0:∀n∈d0.weights Tryz.prog 22,n≤reachBytes:=XhF hsz (j:=0) rfl rfl
 have k1:=h1
 have lt1:∀x∈p1,x.block < W.heap.size:=by obtain ⟨m,hm⟩:=k1;exact DataW.trod_lt m _ _ _ hm
 have wt1:∀n∈d1.weights Tryz.prog 26,n≤reachBytes:=XhF hsz (j:=1) rfl rfl
 have hb5:Rows.uptoBulkAll [d0,d1]≤1048576:=of_decide_eq_true hkk
 have hbulk:Rows.uptoBulk d1≤1048576:=Nat.le_trans (XeR (by simp)) hb5
 obtain ⟨ad0,n0,c0,rfl⟩:=okWide_slice Tryz.underlying22 (hval 0 22 v0 rfl rfl)
 obtain ⟨l0,g0,b0,s0⟩:∃l:List Int,Is 0 W (.slice ad0 n0 c0) l∧Xve l∧l.length≤140737488355328:=(by obtain ⟨fuel,hf⟩:=h0;exact XsK Tryz.underlying22 Tryz.underlying3 (by kernel_rfl) (by kernel_rfl) (by simpa [Value.cells] using hf) wt0)
 obtain ⟨ad1,n1,c1,rfl⟩:=okWide_slice Tryz.underlying26 (hval 1 26 v1 rfl rfl)
 obtain ⟨l1,g1,m1⟩:∃l:List EF,Den (fun _=>False) W (.sq l.length (va l)) (.slice ad1 n1 c1)∧∀e∈l,EOk e:=(by obtain ⟨fuel,hf⟩:=h1;exact XkB (by simpa [Value.cells] using hf) hbulk)
 clear hA0 hval0
 refine (law_walk (Xn7 l0 l1 ⟨s0,b0⟩ m1) W hgw _ (XaV.cons' g0.den (XaV.cons' g1 XaV.nil'))).mono fun e W' ⟨he,bel⟩=>?_
 subst he
 exact ⟨_,rfl,_,_,_,[],_,[],hW',trodAll_mk1 (shut_bool Tryz.underlying4 _),(trodAll_cons_mk (Below.trod Xon (by kernel_rfl) (of_decide_eq_true (by kernel_rfl)) k0 bel lt0) (trodAll_cons_mk (Below.trod Xon (by kernel_rfl) (of_decide_eq_true (by kernel_rfl)) k1 bel lt1) trodAll_mk0)),rfl,bel.frame _,fun h=>by cases h⟩
theorem over:Rows.consoleFormatsUptoRow.holds Tryz.pinned (Rows.OpenSpec.upto Rows.consoleFormatsSpec):=
 OpenClaim.holds_of_cond 4 Tryz.f4 rfl rfl rfl rfl rfl rfl rfl ⟨rfl,rfl,rfl,rfl,rfl⟩ rfl rfl rfl rfl rfl (by kernel_rfl) Tryz.func4 (by kernel_rfl)
  (of_decide_eq_true (by kernel_rfl)) (by unfold Func.isWrapper;first|(rw [if_pos (by decide +kernel)];kernel_rfl)|(rw [if_neg (by decide +kernel)];exact ⟨rfl,rfl⟩))
  (fun os started H enc _ F=>Xt1 os started H enc F)
theorem proved:Rows.ConsoleFormatsUptoCardSaid:=
 Claim7.holds_tied_plain_at .later [] [.data,.data,.data,.handle,.sentinel,.sentinel,.data] true Rows.consoleFormatsUptoCard.stood.harness true
  over (fun _ h=>by cases h) (by kernel_rfl) (fun _ h=>by cases h) consoleFormatsUpto_row_tie rfl ⟨rfl,rfl⟩ (by kernel_rfl) rfl
  (fun f fn hf hfn=>by
   obtain rfl:f=4:=(Option.some.inj ((show Tryz.prog.funcNamed "jobmux/jobmuxlaw32.ConsoleFormats"=some 4 by kernel_rfl).symm.trans hf)).symm
   obtain rfl:fn=Tryz.f4:=(Option.some.inj (Tryz.func4.symm.trans hfn)).symm
   exact ⟨by kernel_rfl,fun j t ht=>by
    rw [Tryz.params4] at ht
    rcases j with _|_|j
    ·obtain rfl:=Option.some.inj (show some 22=some t from ht);exact (show Tryz.prog.wantsStandIn 22=false by kernel_rfl)
    ·obtain rfl:=Option.some.inj (show some 26=some t from ht);exact (show Tryz.prog.wantsStandIn 26=false by kernel_rfl)
    ·simp at ht⟩)
  (by kernel_rfl)
#print axioms proved
end Go.Proofs.YtdpobjakdplljaaGreatDoor.lawConsoleFormats
