import Derived.Test.YtcmfamgnmehojaaGreatDoorW35
import Derived.Test.YtcmfamgnmehojaaGreatDoorW34
import Derived.Test.YtcmfamgnmehojaaGreatDoorW36
import Derived.Test.YtcmfamgnmehojaaGreatDoorTie
import Derived.Test.YtcmfamgnmehojaaGreatDoorCards
import Derived.SevenTiedAt
/- PrinterSame: whatever the arguments, the law returns true and they read as they did. The frame round the walk 'law_walk'. -/
set_option linter.unusedSimpArgs false
set_option linter.unusedVariables false
set_option maxRecDepth 100000
set_option maxHeartbeats 8000000
namespace Go.Proofs.YtcmfamgnmehojaaGreatDoor.lawPrinterSame
open Go.ChangeShapes Go.WideShapes Go.ChangeAt Go.RowKit Go.Joins
open Go.ChangeMaps (open_string shut_string)
theorem own:ownKnob Tryz.prog.godebug=none:=by kernel_rfl
theorem XfC:laidOutB Tryz.prog=true:=by kernel_rfl
theorem XnP (os:Os) (started:os.Started) (H:Type) (enc:TypeId × Value→H) :
  ReturnsInHanded {} Tryz.checked os 3 .any (fun w args=>(Rows.printerSameSpec.pre enc Tryz.prog Tryz.f3 [] false w args∧laidMetH Tryz.prog Rows.printerSameRow.laid w)∧sizedMet enc Tryz.prog Tryz.f3 (OpenSpec.ofChange Rows.printerSameSpec) false w args)
   (Rows.printerSameSpec.post enc Tryz.prog Tryz.f3 false true false false):=by
 refine Xfg (C:=Tryz.checked) (X:=fun w _=>laidMetH Tryz.prog Rows.printerSameRow.laid w) (fun _ _ _ hh h=>h.of_heap hh) own started (by kernel_rfl) Tryz.func3
  (ChangeSpec.witness_at (enc:=enc) (C:=Tryz.checked) (os:=os) (X:=fun w _=>laidMetH Tryz.prog Rows.printerSameRow.laid w) false (laidWorldL os Rows.printerSameRow.laid) #[.slice none 0 0,.slice none 0 0,.slice none 0 0,.int .i64 0] 8 (XfD _ _) (by kernel_rfl) (by kernel_rfl) (by kernel_rfl) (by kernel_rfl) (by kernel_rfl) (Xff _ (by kernel_rfl) (by kernel_rfl) (by kernel_rfl))) ?_
 intro W base args ds gs before hval0 hW hcnd hsz0 hL hS
 have hgw:=Xix hL hS
 have hval:∀(j:Nat) t v,Tryz.f3.params[j]?=some t→args[j]?=some v→Value.okWide Tryz.prog W .any base t v:=hval0
 have hsz:(DataW.weightsEach Tryz.prog (Tryz.f3.params.toList++Rows.printerSameSpec.plain.varTypes Tryz.prog) (ds++gs)).all (·≤reachBytes)=true:=hsz0
 have hW':=hW
 obtain ⟨p,q,hA0,hV,rfl,hfz,hnd⟩:=hW
 have hA:DataW.TrodAll enc Tryz.prog W 0 (fun _=>true) true Tryz.f3.params.toList args.toList ds p:=hA0
 rw [Tryz.params3] at hA hval hsz
 obtain ⟨v0,vs0,d0,ds0,p0,q0,hargs,rfl,rfl,h0,r0⟩:=trodAll_cons hA
 obtain ⟨v1,vs1,d1,ds1,p1,q1,rfl,rfl,rfl,h1,r1⟩:=trodAll_cons r0
 obtain ⟨v2,vs2,d2,ds2,p2,q2,rfl,rfl,rfl,h2,r2⟩:=trodAll_cons r1
 obtain ⟨v3,vs3,d3,ds3,p3,q3,rfl,rfl,rfl,h3,r3⟩:=trodAll_cons r2
 obtain ⟨rfl,rfl,rfl⟩:=trodAll_nil r3
 obtain rfl:args=#[v0,v1,v2,v3]:=by cases args;simp_all
 obtain ⟨rfl,rfl⟩:=trodVars_none hV
 have k0:=h0
 have lt0:∀x∈p0,x.block < W.heap.size:=by obtain ⟨m,hm⟩:=k0;exact DataW.trod_lt m _ _ _ hm
 have wt0:∀n∈d0.weights Tryz.prog 22,n≤reachBytes:=Xdm hsz (j:=0) rfl rfl
 have k1:=h1
 have lt1:∀x∈p1,x.block < W.heap.size:=by obtain ⟨m,hm⟩:=k1;exact DataW.trod_lt m _ _ _ hm
 have wt1:∀n∈d1.weights Tryz.prog 22,n≤reachBytes:=Xdm hsz (j:=1) rfl rfl
 have k2:=h2
 have lt2:∀x∈p2,x.block < W.heap.size:=by obtain ⟨m,hm⟩:=k2;exact DataW.trod_lt m _ _ _ hm
 have wt2:∀n∈d2.weights Tryz.prog 23,n≤reachBytes:=Xdm hsz (j:=2) rfl rfl
 have k3:=h3
 have lt3:∀x∈p3,x.block < W.heap.size:=by obtain ⟨m,hm⟩:=k3;exact DataW.trod_lt m _ _ _ hm
 have wt3:∀n∈d3.weights Tryz.prog 3,n≤reachBytes:=Xdm hsz (j:=3) rfl rfl
 obtain ⟨ad0,n0,c0,rfl⟩:=okWide_slice Tryz.underlying22 (hval 0 22 v0 rfl rfl)
 obtain ⟨l0,g0,b0,s0⟩:∃l:List Int,Is 0 W (.slice ad0 n0 c0) l∧Xow l∧l.length≤140737488355328:=(by obtain ⟨fuel,hf⟩:=h0;exact XjT Tryz.underlying22 Tryz.underlying3 (by kernel_rfl) (by kernel_rfl) (by simpa [Value.cells] using hf) wt0)
 obtain ⟨ad1,n1,c1,rfl⟩:=okWide_slice Tryz.underlying22 (hval 1 22 v1 rfl rfl)
 obtain ⟨l1,g1,b1,s1⟩:∃l:List Int,Is 0 W (.slice ad1 n1 c1) l∧Xow l∧l.length≤140737488355328:=(by obtain ⟨fuel,hf⟩:=h1;exact XjT Tryz.underlying22 Tryz.underlying3 (by kernel_rfl) (by kernel_rfl) (by simpa [Value.cells] using hf) wt1)
 obtain ⟨ad2,n2,c2,rfl⟩:=okWide_slice Tryz.underlying23 (hval 2 23 v2 rfl rfl)
 obtain ⟨l2,g2,m2⟩:∃l:List JF,Den (fun _=>False) W (.sq l.length (jfa l)) (.slice ad2 n2 c2)∧JBs l:=(by obtain ⟨fuel,hf⟩:=h2;exact Xk9 (by simpa [Value.cells] using hf) wt2)
 obtain ⟨a3,rfl,rfl,rfl,u3⟩:=open_int Tryz.underlying3 (hval 3 3 v3 rfl rfl) h3
 have b3:=Xiy u3
 clear hA0 hval0
 refine (law_walk (Xj4 Xlm l0 l1 l2 a3 ⟨s0,b0⟩ ⟨s1,b1⟩ m2 b3) W hgw _ (DenL.cons' g0.den (DenL.cons' g1.den (DenL.cons' g2 (DenL.cons' (Xmb a3) DenL.nil'))))).mono fun e W' ⟨he,bel⟩=>?_
 subst he
 exact ⟨_,rfl,_,_,_,[],_,[],hW',trodAll_mk1 (shut_bool Tryz.underlying4 _),(trodAll_cons_mk (Below.trod XfC (by kernel_rfl) (of_decide_eq_true (by kernel_rfl)) k0 bel lt0) (trodAll_cons_mk (Below.trod XfC (by kernel_rfl) (of_decide_eq_true (by kernel_rfl)) k1 bel lt1) (trodAll_cons_mk (Below.trod XfC (by kernel_rfl) (of_decide_eq_true (by kernel_rfl)) k2 bel lt2) (trodAll_cons_mk (Below.trod XfC (by kernel_rfl) (of_decide_eq_true (by kernel_rfl)) k3 bel lt3) trodAll_mk0)))),rfl,bel.frame _,fun h=>by cases h⟩
theorem over:Rows.printerSameRow.holds Tryz.pinned (OpenSpec.ofChange Rows.printerSameSpec):=
 OpenClaim.holds_of_wide 3 Tryz.f3 rfl rfl rfl rfl rfl rfl rfl ⟨rfl,rfl,rfl,rfl,rfl⟩ rfl rfl rfl rfl rfl (by kernel_rfl) Tryz.func3 (by kernel_rfl)
  (of_decide_eq_true (by kernel_rfl)) (by unfold Func.isWrapper;first|(rw [if_pos (by decide +kernel)];kernel_rfl)|(rw [if_neg (by decide +kernel)];exact ⟨rfl,rfl⟩))
  (fun os started H enc _=>XnP os started H enc)
theorem proved:Rows.PrinterSameCardSaid:=
 Claim7.holds_tied_plain_at .later [] [.data,.data,.data,.data,.handle,.sentinel,.sentinel,.pinned] true Rows.printerSameCard.stood.harness true
  over (fun _ h=>by cases h) (by kernel_rfl) (fun _ h=>by cases h) printerSame_row_tie rfl ⟨rfl,rfl⟩ (by kernel_rfl) rfl
  (fun f fn hf hfn=>by
   obtain rfl:f=3:=(Option.some.inj ((show Tryz.prog.funcNamed "jobmux/jobmuxlaw13.PrinterSame"=some 3 by kernel_rfl).symm.trans hf)).symm
   obtain rfl:fn=Tryz.f3:=(Option.some.inj (Tryz.func3.symm.trans hfn)).symm
   exact ⟨by kernel_rfl,fun j t ht=>by
    rw [Tryz.params3] at ht
    rcases j with _|_|_|_|j
    ·obtain rfl:=Option.some.inj (show some 22=some t from ht);exact (show Tryz.prog.wantsStandIn 22=false by kernel_rfl)
    ·obtain rfl:=Option.some.inj (show some 22=some t from ht);exact (show Tryz.prog.wantsStandIn 22=false by kernel_rfl)
    ·obtain rfl:=Option.some.inj (show some 23=some t from ht);exact (show Tryz.prog.wantsStandIn 23=false by kernel_rfl)
    ·obtain rfl:=Option.some.inj (show some 3=some t from ht);exact (show Tryz.prog.wantsStandIn 3=false by kernel_rfl)
    ·simp at ht⟩)
  (by kernel_rfl)
#print axioms proved
end Go.Proofs.YtcmfamgnmehojaaGreatDoor.lawPrinterSame
