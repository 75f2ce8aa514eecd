import Derived.Test.YtdlblokjfoggpaaGreatDoorW44
import Derived.Test.YtdlblokjfoggpaaGreatDoorW45
import Derived.Test.YtdlblokjfoggpaaGreatDoorTie
import Derived.Test.YtdlblokjfoggpaaGreatDoorCards
import Derived.SevenTiedAt
/- CheckStarts: whatever the arguments, the law returns true and they read as they did. The frame round the walk 'law_walk_sen'. -/
set_option linter.unusedSimpArgs false
set_option linter.unusedVariables false
set_option maxRecDepth 100000
set_option maxHeartbeats 8000000
namespace Go.Proofs.YtdlblokjfoggpaaGreatDoor.lawCheckStarts
open Go.ChangeShapes Go.WideShapes Go.ChangeAt Go.RowKit Go.Joins
open Go.ChangeMaps (open_string shut_string)
theorem own:ownKnob Tryz.prog.godebug=none:=by kernel_rfl
theorem Xrg:laidOutB Tryz.prog=true:=by kernel_rfl
theorem Xtl (os:Os) (started:os.Started) (H:Type) (enc:TypeId × Value→H) :
  ReturnsInHanded {} Tryz.checked os 4 .any (fun w args=>(Rows.checkStartsSpec.pre enc Tryz.prog Tryz.f4 [] false w args∧laidMetH Tryz.prog Rows.checkStartsRow.laid w)∧sizedMet enc Tryz.prog Tryz.f4 (OpenSpec.ofChange Rows.checkStartsSpec) false w args)
   (Rows.checkStartsSpec.post enc Tryz.prog Tryz.f4 false true false false):=by
 refine Xgw (C:=Tryz.checked) (X:=fun w _=>laidMetH Tryz.prog Rows.checkStartsRow.laid w) (fun _ _ _ hh h=>h.of_heap hh) own started (by kernel_rfl) Tryz.func4
  (ChangeSpec.witness_at (enc:=enc) (C:=Tryz.checked) (os:=os) (X:=fun w _=>laidMetH Tryz.prog Rows.checkStartsRow.laid w) false (laidWorldL os Rows.checkStartsRow.laid) #[.slice none 0 0] 8 (Xg9 _ _) (by kernel_rfl) (by kernel_rfl) (by kernel_rfl) (by kernel_rfl) (by kernel_rfl) (Xgv _ (by kernel_rfl) (by kernel_rfl) (by kernel_rfl))) ?_
 intro W base args ds gs before hval0 hW hcnd hsz0 hL hS
 have hgw:=Xk3 hL hS
 obtain ⟨ad,hsen,hinj⟩:=Xjr hL
 have hval:∀(j:Nat) t v,Tryz.f4.params[j]?=some t→args[j]?=some v→Value.okWide Tryz.prog W .any base t v:=hval0
 have hsz:(DataW.weightsEach Tryz.prog (Tryz.f4.params.toList++Rows.checkStartsSpec.plain.varTypes Tryz.prog) (ds++gs)).all (·≤reachBytes)=true:=hsz0
 have hW':=hW
 obtain ⟨p,q,hA0,hV,rfl,hfz,hnd⟩:=hW
 have hA:DataW.TrodAll enc Tryz.prog W 0 (fun _=>true) true Tryz.f4.params.toList args.toList ds p:=hA0
 rw [Tryz.params4] at hA hval hsz
 obtain ⟨v0,vs0,d0,ds0,p0,q0,hargs,rfl,rfl,h0,r0⟩:=trodAll_cons hA
 obtain ⟨rfl,rfl,rfl⟩:=trodAll_nil r0
 obtain rfl:args=#[v0]:=by cases args;simp_all
 obtain ⟨rfl,rfl⟩:=trodVars_none hV
 have k0:=h0
 have lt0:∀x∈p0,x.block < W.heap.size:=by obtain ⟨m,hm⟩:=k0;exact DataW.trod_lt m _ _ _ hm
 have wt0:∀n∈d0.weights Tryz.prog 45,n≤reachBytes:=Xlv hsz (j:=0) rfl rfl
 obtain ⟨ad0,n0,c0,rfl⟩:=okWide_slice Tryz.underlying45 (hval 0 45 v0 rfl rfl)
 obtain ⟨l0,g0,b0,s0⟩:∃l:List Int,Is 0 W (.slice ad0 n0 c0) l∧Xu0 l∧l.length≤140737488355328:=(by obtain ⟨fuel,hf⟩:=h0;exact XrH Tryz.underlying45 Tryz.underlying3 (by kernel_rfl) (by kernel_rfl) (by simpa [Value.cells] using hf) wt0)
 clear hA0 hval0
 refine (law_walk_sen (Xpu ad hinj l0 ⟨s0,b0⟩) W hgw hsen _ (DenL.cons' g0.den DenL.nil')).mono fun e W' ⟨he,bel⟩=>?_
 subst he
 exact ⟨_,rfl,_,_,_,[],_,[],hW',trodAll_mk1 (shut_bool Tryz.underlying4 _),(trodAll_cons_mk (Below.trod Xrg (by kernel_rfl) (of_decide_eq_true (by kernel_rfl)) k0 bel lt0) trodAll_mk0),rfl,bel.frame _,fun h=>by cases h⟩
theorem over:Rows.checkStartsRow.holds Tryz.pinned (OpenSpec.ofChange Rows.checkStartsSpec):=
 OpenClaim.holds_of_wide 4 Tryz.f4 rfl rfl rfl rfl rfl rfl rfl ⟨rfl,rfl,rfl,rfl,rfl⟩ rfl rfl rfl rfl rfl (by kernel_rfl) Tryz.func4 (by kernel_rfl)
  (of_decide_eq_true (by kernel_rfl)) (by unfold Func.isWrapper;first|(rw [if_pos (by decide +kernel)];kernel_rfl)|(rw [if_neg (by decide +kernel)];exact ⟨rfl,rfl⟩))
  (fun os started H enc _=>Xtl os started H enc)
theorem proved:Rows.CheckStartsCardSaid:=
 Claim7.holds_tied_plain_at .later [] [.data,.data,.data,.handle,.sentinel,.sentinel,.sentinel,.sentinel,.sentinel,.sentinel,.sentinel,.sentinel,.sentinel] true Rows.checkStartsCard.stood.harness true
  over (fun _ h=>by cases h) (by kernel_rfl) (fun _ h=>by cases h) checkStarts_row_tie rfl ⟨rfl,rfl⟩ (by kernel_rfl) rfl
  (fun f fn hf hfn=>by
   obtain rfl:f=4:=(Option.some.inj ((show Tryz.prog.funcNamed "jobmux/jobmuxlaw12.CheckStarts"=some 4 by kernel_rfl).symm.trans hf)).symm
   obtain rfl:fn=Tryz.f4:=(Option.some.inj (Tryz.func4.symm.trans hfn)).symm
   exact ⟨by kernel_rfl,fun j t ht=>by
    rw [Tryz.params4] at ht
    rcases j with _|j
    ·obtain rfl:=Option.some.inj (show some 45=some t from ht);exact (show Tryz.prog.wantsStandIn 45=false by kernel_rfl)
    ·simp at ht⟩)
  (by kernel_rfl)
#print axioms proved
end Go.Proofs.YtdlblokjfoggpaaGreatDoor.lawCheckStarts
