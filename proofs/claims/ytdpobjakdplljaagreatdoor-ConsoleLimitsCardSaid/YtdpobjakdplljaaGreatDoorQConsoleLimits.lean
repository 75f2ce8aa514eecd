import Derived.Test.YtdpobjakdplljaaGreatDoorU31
import Derived.Test.YtdpobjakdplljaaGreatDoorU32
import Derived.Test.YtdpobjakdplljaaGreatDoorTie
import Derived.Test.YtdpobjakdplljaaGreatDoorCards
import Derived.SevenTiedAt
/- ConsoleLimits: whatever the arguments, the law returns true and they read as they did. The frame round the walk 'law_walk'. -/
set_option linter.unusedSimpArgs false
set_option linter.unusedVariables false
set_option maxRecDepth 100000
set_option maxHeartbeats 8000000
namespace Go.Proofs.YtdpobjakdplljaaGreatDoor.lawConsoleLimits
open Go.ChangeShapes Go.WideShapes Go.ChangeAt Go.RowKit Go.Joins
open Go.ChangeMaps (open_string shut_string)
theorem own:ownKnob Tryz.prog.godebug=none:=by kernel_rfl
theorem XnX:laidOutB Tryz.prog=true:=by kernel_rfl
theorem Xo7 (os:Os) (started:os.Started) (H:Type) (enc:TypeId × Value→H) :
  ReturnsInHanded {} Tryz.checked os 6 .any (fun w args=>(Rows.consoleLimitsSpec.pre enc Tryz.prog Tryz.f6 [] false w args∧laidMetH Tryz.prog Rows.consoleLimitsRow.laid w)∧sizedMet enc Tryz.prog Tryz.f6 (OpenSpec.ofChange Rows.consoleLimitsSpec) false w args)
   (Rows.consoleLimitsSpec.post enc Tryz.prog Tryz.f6 false true false false):=by
 refine Xfy (C:=Tryz.checked) (X:=fun w _=>laidMetH Tryz.prog Rows.consoleLimitsRow.laid w) (fun _ _ _ hh h=>h.of_heap hh) own started (by kernel_rfl) Tryz.func6
  (ChangeSpec.witness_at (enc:=enc) (C:=Tryz.checked) (os:=os) (X:=fun w _=>laidMetH Tryz.prog Rows.consoleLimitsRow.laid w) false (laidWorldL os Rows.consoleLimitsRow.laid) #[.int .i64 0] 8 (Xf9 _ _) (by kernel_rfl) (by kernel_rfl) (by kernel_rfl) (by kernel_rfl) (by kernel_rfl) (Xfx _ (by kernel_rfl) (by kernel_rfl) (by kernel_rfl))) ?_
 intro W base args ds gs before hval0 hW hcnd hsz0 hL hS
 have hgw:=Xjm hL hS
 have hval:∀(j:Nat) t v,Tryz.f6.params[j]?=some t→args[j]?=some v→Value.okWide Tryz.prog W .any base t v:=hval0
 have hsz:(DataW.weightsEach Tryz.prog (Tryz.f6.params.toList++Rows.consoleLimitsSpec.plain.varTypes Tryz.prog) (ds++gs)).all (·≤reachBytes)=true:=hsz0
 have hW':=hW
 obtain ⟨p,q,hA0,hV,rfl,hfz,hnd⟩:=hW
 have hA:DataW.TrodAll enc Tryz.prog W 0 (fun _=>true) true Tryz.f6.params.toList args.toList ds p:=hA0
 rw [Tryz.params6] at hA hval hsz
 obtain ⟨v0,vs0,d0,ds0,p0,q0,hargs,rfl,rfl,h0,r0⟩:=trodAll_cons hA
 obtain ⟨rfl,rfl,rfl⟩:=trodAll_nil r0
 obtain rfl:args=#[v0]:=by cases args;simp_all
 obtain ⟨rfl,rfl⟩:=trodVars_none hV
 have k0:=h0
 have lt0:∀x∈p0,x.block < W.heap.size:=by obtain ⟨m,hm⟩:=k0;exact DataW.trod_lt m _ _ _ hm
 have wt0:∀n∈d0.weights Tryz.prog 3,n≤reachBytes:=XjB hsz (j:=0) rfl rfl
 obtain ⟨a0,rfl,rfl,rfl,u0⟩:=open_int Tryz.underlying3 (hval 0 3 v0 rfl rfl) h0
 have b0:=Xjn u0
 clear hA0 hval0
 refine (law_walk (Xkk a0 b0) W hgw _ (XaN.cons' (Xny a0) XaN.nil')).mono fun e W' ⟨he,bel⟩=>?_
 subst he
 exact ⟨_,rfl,_,_,_,[],_,[],hW',trodAll_mk1 (shut_bool Tryz.underlying4 _),(trodAll_cons_mk (Below.trod XnX (by kernel_rfl) (of_decide_eq_true (by kernel_rfl)) k0 bel lt0) trodAll_mk0),rfl,bel.frame _,fun h=>by cases h⟩
theorem over:Rows.consoleLimitsRow.holds Tryz.pinned (OpenSpec.ofChange Rows.consoleLimitsSpec):=
 OpenClaim.holds_of_wide 6 Tryz.f6 rfl rfl rfl rfl rfl rfl rfl ⟨rfl,rfl,rfl,rfl,rfl⟩ rfl rfl rfl rfl rfl (by kernel_rfl) Tryz.func6 (by kernel_rfl)
  (of_decide_eq_true (by kernel_rfl)) (by unfold Func.isWrapper;first|(rw [if_pos (by decide +kernel)];kernel_rfl)|(rw [if_neg (by decide +kernel)];exact ⟨rfl,rfl⟩))
  (fun os started H enc _=>Xo7 os started H enc)
theorem proved:Rows.ConsoleLimitsCardSaid:=
 Claim7.holds_tied_plain_at .later [] [.data,.data,.data,.handle,.sentinel,.sentinel,.data] true Rows.consoleLimitsCard.stood.harness true
  over (fun _ h=>by cases h) (by kernel_rfl) (fun _ h=>by cases h) consoleLimits_row_tie rfl ⟨rfl,rfl⟩ (by kernel_rfl) rfl
  (fun f fn hf hfn=>by
   obtain rfl:f=6:=(Option.some.inj ((show Tryz.prog.funcNamed "jobmux/jobmuxlaw32.ConsoleLimits"=some 6 by kernel_rfl).symm.trans hf)).symm
   obtain rfl:fn=Tryz.f6:=(Option.some.inj (Tryz.func6.symm.trans hfn)).symm
   exact ⟨by kernel_rfl,fun j t ht=>by
    rw [Tryz.params6] at ht
    rcases j with _|j
    ·obtain rfl:=Option.some.inj (show some 3=some t from ht);exact (show Tryz.prog.wantsStandIn 3=false by kernel_rfl)
    ·simp at ht⟩)
  (by kernel_rfl)
#print axioms proved
end Go.Proofs.YtdpobjakdplljaaGreatDoor.lawConsoleLimits
