import Derived.Test.YtdlblokjfoggpaaGreatDoorW47
import Derived.Test.YtdlblokjfoggpaaGreatDoorTie
import Derived.Test.YtdlblokjfoggpaaGreatDoorCards
import Derived.SevenTiedAt
/- CheckPatterns: whatever the arguments, the law returns true and they read as they did. The frame round the walk 'law_walk_sen'. -/
set_option linter.unusedSimpArgs false
set_option linter.unusedVariables false
set_option maxRecDepth 100000
set_option maxHeartbeats 8000000
namespace Go.Proofs.YtdlblokjfoggpaaGreatDoor.lawCheckPatterns
open Go.ChangeShapes Go.WideShapes Go.ChangeAt Go.RowKit Go.Joins
open Go.ChangeMaps (open_string shut_string)
theorem own:ownKnob Tryz.prog.godebug=none:=by kernel_rfl
theorem Xol:laidOutB Tryz.prog=true:=by kernel_rfl
theorem XvY (os:Os) (started:os.Started) (H:Type) (enc:TypeId × Value→H) :
  ReturnsInHanded {} Tryz.checked os 3 .any (fun w args=>(Rows.checkPatternsSpec.pre enc Tryz.prog Tryz.f3 [] false w args∧laidMetH Tryz.prog Rows.checkPatternsRow.laid w)∧sizedMet enc Tryz.prog Tryz.f3 (OpenSpec.ofChange Rows.checkPatternsSpec) false w args)
   (Rows.checkPatternsSpec.post enc Tryz.prog Tryz.f3 false true false false):=by
 refine Xg1 (C:=Tryz.checked) (X:=fun w _=>laidMetH Tryz.prog Rows.checkPatternsRow.laid w) (fun _ _ _ hh h=>h.of_heap hh) own started (by kernel_rfl) Tryz.func3
  (ChangeSpec.witness_at (enc:=enc) (C:=Tryz.checked) (os:=os) (X:=fun w _=>laidMetH Tryz.prog Rows.checkPatternsRow.laid w) false (laidWorldL os Rows.checkPatternsRow.laid) #[.string .empty,.slice none 0 0] 8 (XhQ _ _) (by kernel_rfl) (by kernel_rfl) (by kernel_rfl) (by kernel_rfl) (by kernel_rfl) (Xg0 _ (by kernel_rfl) (by kernel_rfl) (by kernel_rfl))) ?_
 intro W base args ds gs before hval0 hW hcnd hsz0 hL hS
 have hgw:=Xms hL hS
 obtain ⟨ad,hsen,hinj⟩:=Xkp hL
 have hval:∀(j:Nat) t v,Tryz.f3.params[j]?=some t→args[j]?=some v→Value.okWide Tryz.prog W .any base t v:=hval0
 have hsz:(DataW.weightsEach Tryz.prog (Tryz.f3.params.toList++Rows.checkPatternsSpec.plain.varTypes Tryz.prog) (ds++gs)).all (·≤reachBytes)=true:=hsz0
 have hW':=hW
 obtain ⟨p,q,hA0,hV,rfl,hfz,hnd⟩:=hW
 have hA:DataW.TrodAll enc Tryz.prog W 0 (fun _=>true) true Tryz.f3.params.toList args.toList ds p:=hA0
 rw [Tryz.params3] at hA hval hsz
 obtain ⟨v0,vs0,d0,ds0,p0,q0,hargs,rfl,rfl,h0,r0⟩:=trodAll_cons hA
 obtain ⟨v1,vs1,d1,ds1,p1,q1,rfl,rfl,rfl,h1,r1⟩:=trodAll_cons r0
 obtain ⟨rfl,rfl,rfl⟩:=trodAll_nil r1
 obtain rfl:args=#[v0,v1]:=by cases args;simp_all
 obtain ⟨rfl,rfl⟩:=trodVars_none hV
 have k0:=h0
 have lt0:∀x∈p0,x.block < W.heap.size:=by obtain ⟨m,hm⟩:=k0;exact DataW.trod_lt m _ _ _ hm
 have wt0:∀n∈d0.weights Tryz.prog 9,n≤reachBytes:=Xhn hsz (j:=0) rfl rfl
 have k1:=h1
 have lt1:∀x∈p1,x.block < W.heap.size:=by obtain ⟨m,hm⟩:=k1;exact DataW.trod_lt m _ _ _ hm
 have wt1:∀n∈d1.weights Tryz.prog 22,n≤reachBytes:=Xhn hsz (j:=1) rfl rfl
 obtain ⟨s0,rfl,rfl,rfl,u0⟩:=open_string Tryz.underlying9 (hval 0 9 v0 rfl rfl) h0
 obtain ⟨ad1,n1,c1,rfl⟩:=okWide_slice Tryz.underlying22 (hval 1 22 v1 rfl rfl)
 obtain ⟨l1,g1,s1⟩:∃l:List UInt8,Bs 0 W (.slice ad1 n1 c1) l∧l.length≤140737488355328:=(by obtain ⟨fuel,hf⟩:=h1;exact XmH Tryz.underlying22 Tryz.underlying5 (by kernel_rfl) (by kernel_rfl) (by simpa [Value.cells] using hf) wt1)
 clear hA0 hval0
 refine (law_walk_sen (XmK ad hinj s0.data.toList l1 s1) W hgw hsen _ (DenL.cons' (Xtk s0) (DenL.cons' g1.den DenL.nil'))).mono fun e W' ⟨he,bel⟩=>?_
 subst he
 exact ⟨_,rfl,_,_,_,[],_,[],hW',trodAll_mk1 (shut_bool Tryz.underlying4 _),(trodAll_cons_mk (Below.trod Xol (by kernel_rfl) (of_decide_eq_true (by kernel_rfl)) k0 bel lt0) (trodAll_cons_mk (Below.trod Xol (by kernel_rfl) (of_decide_eq_true (by kernel_rfl)) k1 bel lt1) trodAll_mk0)),rfl,bel.frame _,fun h=>by cases h⟩
theorem over:Rows.checkPatternsRow.holds Tryz.pinned (OpenSpec.ofChange Rows.checkPatternsSpec):=
 OpenClaim.holds_of_wide 3 Tryz.f3 rfl rfl rfl rfl rfl rfl rfl ⟨rfl,rfl,rfl,rfl,rfl⟩ rfl rfl rfl rfl rfl (by kernel_rfl) Tryz.func3 (by kernel_rfl)
  (of_decide_eq_true (by kernel_rfl)) (by unfold Func.isWrapper;first|(rw [if_pos (by decide +kernel)];kernel_rfl)|(rw [if_neg (by decide +kernel)];exact ⟨rfl,rfl⟩))
  (fun os started H enc _=>XvY os started H enc)
theorem proved:Rows.CheckPatternsCardSaid:=
 Claim7.holds_tied_plain_at .later [] [.data,.data,.data,.handle,.sentinel,.sentinel,.sentinel,.sentinel,.sentinel,.sentinel,.sentinel,.sentinel,.sentinel] true Rows.checkPatternsCard.stood.harness true
  over (fun _ h=>by cases h) (by kernel_rfl) (fun _ h=>by cases h) checkPatterns_row_tie rfl ⟨rfl,rfl⟩ (by kernel_rfl) rfl
  (fun f fn hf hfn=>by
   obtain rfl:f=3:=(Option.some.inj ((show Tryz.prog.funcNamed "jobmux/jobmuxlaw12.CheckPatterns"=some 3 by kernel_rfl).symm.trans hf)).symm
   obtain rfl:fn=Tryz.f3:=(Option.some.inj (Tryz.func3.symm.trans hfn)).symm
   exact ⟨by kernel_rfl,fun j t ht=>by
    rw [Tryz.params3] at ht
    rcases j with _|_|j
    ·obtain rfl:=Option.some.inj (show some 9=some t from ht);exact (show Tryz.prog.wantsStandIn 9=false by kernel_rfl)
    ·obtain rfl:=Option.some.inj (show some 22=some t from ht);exact (show Tryz.prog.wantsStandIn 22=false by kernel_rfl)
    ·simp at ht⟩)
  (by kernel_rfl)
#print axioms proved
end Go.Proofs.YtdlblokjfoggpaaGreatDoor.lawCheckPatterns
