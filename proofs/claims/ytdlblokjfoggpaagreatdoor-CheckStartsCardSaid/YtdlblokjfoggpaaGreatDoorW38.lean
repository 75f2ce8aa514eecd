import Derived.Test.YtdlblokjfoggpaaGreatDoorW7
import Derived.Test.YtdlblokjfoggpaaGreatDoorW10
import Derived.Test.YtdlblokjfoggpaaGreatDoorW37
import Derived.Test.YtdlblokjfoggpaaGreatDoorW27
import Derived.Test.YtdlblokjfoggpaaGreatDoorW9
/- The program's lexer: token. -/
set_option linter.unusedSimpArgs false
set_option linter.unusedVariables false
set_option maxRecDepth 100000
set_option maxHeartbeats 8000000
namespace Go.Proofs.YtdlblokjfoggpaaGreatDoor
open Go.RowKit
theorem Xbf {P:Program} {o:Oper} {ρ:Operand→AV} {H:List Hp} (t:TypeId) (x:Operand) (lo hi:Option Operand) (l h:Nat) (s:List UInt8) (ho:o.op=.slice t x lo hi none) (hx:ρ x=.x (.string (bs s))) (ht:P.underlying t=some .string)
  (hlo:(lo=none∧l=0)∨∃y k,lo=some y∧ρ y=.x (.int k l)) (hhi:(hi=none∧h=s.length)∨∃y k,hi=some y∧ρ y=.x (.int k h)) (h1:l≤h) (h2:h≤s.length):XeR P o ρ H (.x (.string (bs ((s.take h).drop l)))):=by
 intro V a w r
 have he:(bs s).extract l h=bs ((s.take h).drop l):=by
  apply ByteArray.ext;apply Array.toList_inj.1
  simp [bs,ByteArray.data_extract,List.extract_eq_take_drop,List.drop_take]
 have hrun:∀w',(Instr.sliceAt t (.string (bs s)) (lo.map a.eval) (hi.map a.eval) none).run P w'=.ok (.string (bs ((s.take h).drop l))) w':=by
  intro w'
  rw [←he]
  rcases hlo with ⟨rfl,rfl⟩|⟨y,k,rfl,hy⟩<;>rcases hhi with ⟨rfl,rfl⟩|⟨z,k',rfl,hz⟩<;>
   (try rw [Option.map_some,r.evx (by simp [ho,Op.operands]) hy])<;>(try rw [Option.map_some,r.evx (by simp [ho,Op.operands]) hz])<;>
   simp [Instr.sliceAt,run_underlying ht,Instr.slice,Instr.sliceBounds,Instr.sliceBound,asIntOf,h1,h2]
 refine ⟨.string (bs ((s.take h).drop l)),fun w'=>?_,by rw [Den]⟩
 simp [execOp,ho,r.evx (by simp [ho,Op.operands]) hx,hrun]
def XlF:Except Int (Int × List UInt8 × Nat)→AV
 | .ok x=>.tup [.x (.int .i64 x.1),.x (.string (bs x.2.1)),.x (.int .i64 (x.2.2:Nat)),.x .nilIface]
 | .error e=>.tup [.x (.int .i64 0),.x (.string (bs [])),.x (.int .i64 0),.x (.iface 187 (.int .i64 e))]
theorem Xlq (c:UInt8) (r:List UInt8) (hl:r.length≤50000):XaM Tryz.prog 117 [] [.x (.string (bs (c :: r)))] (fun q H'=>q=XlF (one (c :: r))∧H'=[]):=by
 have ht:=Xe4 c
 have hd:=Xey c
 have hw:=Xqj 151 Tryz.f151 XeA Tryz.func151 (by decide) rfl XoI (c :: r) (by simp;omega)
 have hg:=Xqj 152 Tryz.f152 XbX Tryz.func152 (by decide) rfl Xey (c :: r) (by simp;omega)
 have hq:=Xpd (c :: r) (by simp) (by simp;omega) []
 have hp:=Xnm (c :: r) (by simp) (by simp;omega) []
 simp only [List.drop_succ_cons,List.drop_zero] at hq hp
 have hwl:=Xko XeA (c :: r)
 have hgl:=Xko XbX (c :: r)
 simp only [Xvw] at hwl hgl
 refine Xbs Tryz.func117 Tryz.ntmps117 ?_
 (repeat' (first|refine Wkx.go ?_|refine XaG ?_|(refine XaE (fun h=>?_) (fun h=>?_)<;>first|(exact absurd h (by decide))|(exfalso;omega;done)|skip)|refine XaF ?_|refine Xai ?_ (h:=by first|exact fun _=>Xak _ _ _ _ _ 0 _ rfl rfl rfl (by kernel_rfl) rfl (by simp;first|done|omega)|fail)|refine Xai ?_ (h:=by first|(intro hp;(try simp only [wgp] at hp);(try simp only [hp,wte]);(try simp only [whn] at hp);exact Xak _ _ _ _ _ 0 _ rfl rfl rfl (by kernel_rfl) rfl (by simp;first|done|omega))|fail)|refine Xai ?_ (h:=by first|exact fun _=>Xb3 rfl rfl Tryz.func149 (ht)|fail)|refine Xai ?_ (h:=by first|exact fun _=>Xb3 rfl rfl Tryz.func152 (hd)|fail)|refine Xai ?_ (h:=by first|exact fun _=>Xb3 rfl rfl Tryz.func150 (hw)|fail)|refine Xai ?_ (h:=by first|exact fun _=>Xb3 rfl rfl Tryz.func150 (hg)|fail)|refine Xai ?_ (h:=by first|exact fun _=>Xb3 rfl rfl Tryz.func153 (hq)|fail)|refine Xai ?_ (h:=by first|exact fun _=>Xb3 rfl rfl Tryz.func154 (hp)|fail)|refine Xai ?_|(refine Xaa rfl ?_;(first|refine Xax ?_|refine Xaw ?_|refine Xav (fun ad cap=>?_)|refine Xat (fun b=>?_)|refine Xas (fun b=>?_)|refine Xau (fun b=>?_)|fail))|fail))
 ·refine XeU mixed ?_
  (first|refine Xbz 0 rfl rfl (by kernel_rfl) (by intro c T H hp;simp [Xbx,XaC,XbG,XcQ] at hp) _ _ _ _ _ rfl rfl XaR.out (by first|exact Xvs rfl|(simp [wlq];first|done|omega)) (by first|exact Xvs rfl|(simp [wlq];first|done|omega)) ?_|(apply Xcf 0 rfl rfl (by kernel_rfl) (by intro c T H hp;simp [Xbx,XaC,XbG,XcQ] at hp);(case h=>(first|(first|exact Xbm _ rfl|exact Xcw _ rfl|exact XbM _ _ _ rfl rfl|exact XaT _ _ _ _ _ _ rfl rfl Xa1.out|exact WInd_nil_at _ _ rfl rfl|exact WInd_index_str _ _ _ _ _ _ _ rfl rfl rfl (by kernel_rfl) rfl (by omega)|exact WInd_field_at _ _ _ _ _ rfl rfl Xa1.out|exact WInd_index_sq _ _ _ _ _ _ _ _ _ _ rfl rfl rfl HEl.out rfl (by first|omega|assumption) (by simp;first|done|omega)|exact XaY _ _ _ _ _ _ _ _ _ _ _ _ rfl rfl rfl HEl.out rfl (by first|omega|assumption)|(apply XcW;(case hs=>(intro _ _ h;cases h));(case hx=>rfl);(case hrun=>(intro w;simp [wtb,AV.val,go_sem];(try go_bits);rfl))))|exact WInd_index_sq _ _ _ _ _ _ _ _ 0 _ rfl rfl rfl HEl.out rfl (by omega) (by simp;first|done|omega)|exact WInd_index_sq _ _ _ _ _ _ _ _ 1 _ rfl rfl rfl HEl.out rfl (by omega) (by simp;first|done|omega)|exact WInd_index_sq _ _ _ _ _ _ _ _ 2 _ rfl rfl rfl HEl.out rfl (by omega) (by simp;first|done|omega)|exact WInd_index_sq _ _ _ _ _ _ _ _ 3 _ rfl rfl rfl HEl.out rfl (by omega) (by simp;first|done|omega)|exact WInd_index_sq _ _ _ _ _ _ _ _ 4 _ rfl rfl rfl HEl.out rfl (by omega) (by simp;first|done|omega)|exact WInd_index_sq _ _ _ _ _ _ _ _ 5 _ rfl rfl rfl HEl.out rfl (by omega) (by simp;first|done|omega)|exact Xbf _ _ _ _ _ _ _ rfl rfl (by kernel_rfl) (by first|exact .inl ⟨rfl,rfl⟩|exact .inr ⟨_,_,rfl,rfl⟩) (by first|exact .inl ⟨rfl,rfl⟩|exact .inr ⟨_,_,rfl,rfl⟩) (by simp;done) (by simp;first|done|omega)))));(apply Xce;(case hT=>((try simp (disch:=first|assumption|omega) only [wtn,List.drop_zero,Xvx,Xvu,Xvv,Xvy,XvC,Nat.reduceAdd,Nat.reduceMul,Nat.reduceSub,↓reduceIte,Nat.reduceEqDiff]);rfl));(case hH=>rfl));(first|refine Xbz 1 rfl rfl (by kernel_rfl) (by intro c T H hp;simp [Xbx,XaC,XbG,XcQ] at hp) _ _ _ _ _ rfl rfl XaR.out (by first|exact Xvs rfl|(simp [wlq];first|done|omega)) (by first|exact Xvs rfl|(simp [wlq];first|done|omega)) ?_|(apply Xcf 1 rfl rfl (by kernel_rfl) (by intro c T H hp;simp [Xbx,XaC,XbG,XcQ] at hp);(case h=>(first|(first|exact Xbm _ rfl|exact Xcw _ rfl|exact XbM _ _ _ rfl rfl|exact XaT _ _ _ _ _ _ rfl rfl Xa1.out|exact WInd_nil_at _ _ rfl rfl|exact WInd_index_str _ _ _ _ _ _ _ rfl rfl rfl (by kernel_rfl) rfl (by omega)|exact WInd_field_at _ _ _ _ _ rfl rfl Xa1.out|exact WInd_index_sq _ _ _ _ _ _ _ _ _ _ rfl rfl rfl HEl.out rfl (by first|omega|assumption) (by simp;first|done|omega)|exact XaY _ _ _ _ _ _ _ _ _ _ _ _ rfl rfl rfl HEl.out rfl (by first|omega|assumption)|(apply XcW;(case hs=>(intro _ _ h;cases h));(case hx=>rfl);(case hrun=>(intro w;simp [wtb,AV.val,go_sem];(try go_bits);rfl))))|exact WInd_index_sq _ _ _ _ _ _ _ _ 0 _ rfl rfl rfl HEl.out rfl (by omega) (by simp;first|done|omega)|exact WInd_index_sq _ _ _ _ _ _ _ _ 1 _ rfl rfl rfl HEl.out rfl (by omega) (by simp;first|done|omega)|exact WInd_index_sq _ _ _ _ _ _ _ _ 2 _ rfl rfl rfl HEl.out rfl (by omega) (by simp;first|done|omega)|exact WInd_index_sq _ _ _ _ _ _ _ _ 3 _ rfl rfl rfl HEl.out rfl (by omega) (by simp;first|done|omega)|exact WInd_index_sq _ _ _ _ _ _ _ _ 4 _ rfl rfl rfl HEl.out rfl (by omega) (by simp;first|done|omega)|exact WInd_index_sq _ _ _ _ _ _ _ _ 5 _ rfl rfl rfl HEl.out rfl (by omega) (by simp;first|done|omega)|exact Xbf _ _ _ _ _ _ _ rfl rfl (by kernel_rfl) (by first|exact .inl ⟨rfl,rfl⟩|exact .inr ⟨_,_,rfl,rfl⟩) (by first|exact .inl ⟨rfl,rfl⟩|exact .inr ⟨_,_,rfl,rfl⟩) (by simp;done) (by simp;first|done|omega)))));(apply Xce;(case hT=>((try simp (disch:=first|assumption|omega) only [wtn,List.drop_zero,Xvx,Xvu,Xvv,Xvy,XvC,Nat.reduceAdd,Nat.reduceMul,Nat.reduceSub,↓reduceIte,Nat.reduceEqDiff]);rfl));(case hH=>rfl));(first|refine Xbz 2 rfl rfl (by kernel_rfl) (by intro c T H hp;simp [Xbx,XaC,XbG,XcQ] at hp) _ _ _ _ _ rfl rfl XaR.out (by first|exact Xvs rfl|(simp [wlq];first|done|omega)) (by first|exact Xvs rfl|(simp [wlq];first|done|omega)) ?_|(apply Xcf 2 rfl rfl (by kernel_rfl) (by intro c T H hp;simp [Xbx,XaC,XbG,XcQ] at hp);(case h=>(first|(first|exact Xbm _ rfl|exact Xcw _ rfl|exact XbM _ _ _ rfl rfl|exact XaT _ _ _ _ _ _ rfl rfl Xa1.out|exact WInd_nil_at _ _ rfl rfl|exact WInd_index_str _ _ _ _ _ _ _ rfl rfl rfl (by kernel_rfl) rfl (by omega)|exact WInd_field_at _ _ _ _ _ rfl rfl Xa1.out|exact WInd_index_sq _ _ _ _ _ _ _ _ _ _ rfl rfl rfl HEl.out rfl (by first|omega|assumption) (by simp;first|done|omega)|exact XaY _ _ _ _ _ _ _ _ _ _ _ _ rfl rfl rfl HEl.out rfl (by first|omega|assumption)|(apply XcW;(case hs=>(intro _ _ h;cases h));(case hx=>rfl);(case hrun=>(intro w;simp [wtb,AV.val,go_sem];(try go_bits);rfl))))|exact WInd_index_sq _ _ _ _ _ _ _ _ 0 _ rfl rfl rfl HEl.out rfl (by omega) (by simp;first|done|omega)|exact WInd_index_sq _ _ _ _ _ _ _ _ 1 _ rfl rfl rfl HEl.out rfl (by omega) (by simp;first|done|omega)|exact WInd_index_sq _ _ _ _ _ _ _ _ 2 _ rfl rfl rfl HEl.out rfl (by omega) (by simp;first|done|omega)|exact WInd_index_sq _ _ _ _ _ _ _ _ 3 _ rfl rfl rfl HEl.out rfl (by omega) (by simp;first|done|omega)|exact WInd_index_sq _ _ _ _ _ _ _ _ 4 _ rfl rfl rfl HEl.out rfl (by omega) (by simp;first|done|omega)|exact WInd_index_sq _ _ _ _ _ _ _ _ 5 _ rfl rfl rfl HEl.out rfl (by omega) (by simp;first|done|omega)|exact Xbf _ _ _ _ _ _ _ rfl rfl (by kernel_rfl) (by first|exact .inl ⟨rfl,rfl⟩|exact .inr ⟨_,_,rfl,rfl⟩) (by first|exact .inl ⟨rfl,rfl⟩|exact .inr ⟨_,_,rfl,rfl⟩) (by simp;done) (by simp;first|done|omega)))));(apply Xce;(case hT=>((try simp (disch:=first|assumption|omega) only [wtn,List.drop_zero,Xvx,Xvu,Xvv,Xvy,XvC,Nat.reduceAdd,Nat.reduceMul,Nat.reduceSub,↓reduceIte,Nat.reduceEqDiff]);rfl));(case hH=>rfl));(first|refine Xbz 3 rfl rfl (by kernel_rfl) (by intro c T H hp;simp [Xbx,XaC,XbG,XcQ] at hp) _ _ _ _ _ rfl rfl XaR.out (by first|exact Xvs rfl|(simp [wlq];first|done|omega)) (by first|exact Xvs rfl|(simp [wlq];first|done|omega)) ?_|(apply Xcf 3 rfl rfl (by kernel_rfl) (by intro c T H hp;simp [Xbx,XaC,XbG,XcQ] at hp);(case h=>(first|(first|exact Xbm _ rfl|exact Xcw _ rfl|exact XbM _ _ _ rfl rfl|exact XaT _ _ _ _ _ _ rfl rfl Xa1.out|exact WInd_nil_at _ _ rfl rfl|exact WInd_index_str _ _ _ _ _ _ _ rfl rfl rfl (by kernel_rfl) rfl (by omega)|exact WInd_field_at _ _ _ _ _ rfl rfl Xa1.out|exact WInd_index_sq _ _ _ _ _ _ _ _ _ _ rfl rfl rfl HEl.out rfl (by first|omega|assumption) (by simp;first|done|omega)|exact XaY _ _ _ _ _ _ _ _ _ _ _ _ rfl rfl rfl HEl.out rfl (by first|omega|assumption)|(apply XcW;(case hs=>(intro _ _ h;cases h));(case hx=>rfl);(case hrun=>(intro w;simp [wtb,AV.val,go_sem];(try go_bits);rfl))))|exact WInd_index_sq _ _ _ _ _ _ _ _ 0 _ rfl rfl rfl HEl.out rfl (by omega) (by simp;first|done|omega)|exact WInd_index_sq _ _ _ _ _ _ _ _ 1 _ rfl rfl rfl HEl.out rfl (by omega) (by simp;first|done|omega)|exact WInd_index_sq _ _ _ _ _ _ _ _ 2 _ rfl rfl rfl HEl.out rfl (by omega) (by simp;first|done|omega)|exact WInd_index_sq _ _ _ _ _ _ _ _ 3 _ rfl rfl rfl HEl.out rfl (by omega) (by simp;first|done|omega)|exact WInd_index_sq _ _ _ _ _ _ _ _ 4 _ rfl rfl rfl HEl.out rfl (by omega) (by simp;first|done|omega)|exact WInd_index_sq _ _ _ _ _ _ _ _ 5 _ rfl rfl rfl HEl.out rfl (by omega) (by simp;first|done|omega)|exact Xbf _ _ _ _ _ _ _ rfl rfl (by kernel_rfl) (by first|exact .inl ⟨rfl,rfl⟩|exact .inr ⟨_,_,rfl,rfl⟩) (by first|exact .inl ⟨rfl,rfl⟩|exact .inr ⟨_,_,rfl,rfl⟩) (by simp;done) (by simp;first|done|omega)))));(apply Xce;(case hT=>((try simp (disch:=first|assumption|omega) only [wtn,List.drop_zero,Xvx,Xvu,Xvv,Xvy,XvC,Nat.reduceAdd,Nat.reduceMul,Nat.reduceSub,↓reduceIte,Nat.reduceEqDiff]);rfl));(case hH=>rfl))
  refine XiG ?_
  (repeat ((first|refine XlG 4 ?_|refine XlG 5 ?_|refine XlG 6 ?_|refine XlG 7 ?_);(first|refine Xcb ?_|refine Xax ?_|refine Xaw ?_|refine Xav (fun ad cap=>?_)|refine Xat (fun b=>?_)|refine Xas (fun b=>?_)|refine Xau (fun b=>?_)|fail)))
  refine XfM (by decide +kernel) ?_
  (repeat' (first|refine Wkx.go ?_|refine XaJ ?_|refine XaG ?_|(refine XaE (fun h=>?_) (fun h=>?_)<;>first|(exact absurd h (by decide))|(exfalso;omega;done)|skip)|refine XaF ?_|refine Xai ?_|(refine Xaa rfl ?_;(first|refine Xax ?_|refine Xaw ?_|refine Xav (fun ad cap=>?_)|refine Xat (fun b=>?_)|refine Xas (fun b=>?_)|refine Xau (fun b=>?_)|fail))|fail))
  rw [Xo4 c r (by assumption)]
  exact Xab _ _ (Xoc rfl (RV.tmp _) (RV.tmp _) (RV.tmp _) (RV.tmp _) (Xaq.mk' [] [] (Xvt _) (Xap.refl _ _) (VwL.refl _ _))) ⟨by (simp only [XlF];(first|rfl|(simp [bs];done))),rfl⟩
 ·rw [Xo2 c r (by assumption) (by assumption) (by first|omega|(simp at h;omega)|(trace_state;fail))]
  exact Xab _ _ (Xoc rfl (RV.tmp _) (RV.tmp _) (RV.tmp _) (RV.tmp _) (Xaq.mk' [] [] (Xvt _) (Xap.refl _ _) (VwL.refl _ _))) ⟨by (simp only [XlF];(first|rfl|(simp [bs];done))),rfl⟩
 ·skip
  refine XeU mixed ?_
  (first|refine Xbz 0 rfl rfl (by kernel_rfl) (by intro c T H hp;simp [Xbx,XaC,XbG,XcQ] at hp) _ _ _ _ _ rfl rfl XaR.out (by first|exact Xvs rfl|(simp [wlq];first|done|omega)) (by first|exact Xvs rfl|(simp [wlq];first|done|omega)) ?_|(apply Xcf 0 rfl rfl (by kernel_rfl) (by intro c T H hp;simp [Xbx,XaC,XbG,XcQ] at hp);(case h=>(first|(first|exact Xbm _ rfl|exact Xcw _ rfl|exact XbM _ _ _ rfl rfl|exact XaT _ _ _ _ _ _ rfl rfl Xa1.out|exact WInd_nil_at _ _ rfl rfl|exact WInd_index_str _ _ _ _ _ _ _ rfl rfl rfl (by kernel_rfl) rfl (by omega)|exact WInd_field_at _ _ _ _ _ rfl rfl Xa1.out|exact WInd_index_sq _ _ _ _ _ _ _ _ _ _ rfl rfl rfl HEl.out rfl (by first|omega|assumption) (by simp;first|done|omega)|exact XaY _ _ _ _ _ _ _ _ _ _ _ _ rfl rfl rfl HEl.out rfl (by first|omega|assumption)|(apply XcW;(case hs=>(intro _ _ h;cases h));(case hx=>rfl);(case hrun=>(intro w;simp [wtb,AV.val,go_sem];(try go_bits);rfl))))|exact WInd_index_sq _ _ _ _ _ _ _ _ 0 _ rfl rfl rfl HEl.out rfl (by omega) (by simp;first|done|omega)|exact WInd_index_sq _ _ _ _ _ _ _ _ 1 _ rfl rfl rfl HEl.out rfl (by omega) (by simp;first|done|omega)|exact WInd_index_sq _ _ _ _ _ _ _ _ 2 _ rfl rfl rfl HEl.out rfl (by omega) (by simp;first|done|omega)|exact WInd_index_sq _ _ _ _ _ _ _ _ 3 _ rfl rfl rfl HEl.out rfl (by omega) (by simp;first|done|omega)|exact WInd_index_sq _ _ _ _ _ _ _ _ 4 _ rfl rfl rfl HEl.out rfl (by omega) (by simp;first|done|omega)|exact WInd_index_sq _ _ _ _ _ _ _ _ 5 _ rfl rfl rfl HEl.out rfl (by omega) (by simp;first|done|omega)|exact Xbf _ _ _ _ _ _ _ rfl rfl (by kernel_rfl) (by first|exact .inl ⟨rfl,rfl⟩|exact .inr ⟨_,_,rfl,rfl⟩) (by first|exact .inl ⟨rfl,rfl⟩|exact .inr ⟨_,_,rfl,rfl⟩) (by simp;done) (by simp;first|done|omega)))));(apply Xce;(case hT=>((try simp (disch:=first|assumption|omega) only [wtn,List.drop_zero,Xvx,Xvu,Xvv,Xvy,XvC,Nat.reduceAdd,Nat.reduceMul,Nat.reduceSub,↓reduceIte,Nat.reduceEqDiff]);rfl));(case hH=>rfl));(first|refine Xbz 1 rfl rfl (by kernel_rfl) (by intro c T H hp;simp [Xbx,XaC,XbG,XcQ] at hp) _ _ _ _ _ rfl rfl XaR.out (by first|exact Xvs rfl|(simp [wlq];first|done|omega)) (by first|exact Xvs rfl|(simp [wlq];first|done|omega)) ?_|(apply Xcf 1 rfl rfl (by kernel_rfl) (by intro c T H hp;simp [Xbx,XaC,XbG,XcQ] at hp);(case h=>(first|(first|exact Xbm _ rfl|exact Xcw _ rfl|exact XbM _ _ _ rfl rfl|exact XaT _ _ _ _ _ _ rfl rfl Xa1.out|exact WInd_nil_at _ _ rfl rfl|exact WInd_index_str _ _ _ _ _ _ _ rfl rfl rfl (by kernel_rfl) rfl (by omega)|exact WInd_field_at _ _ _ _ _ rfl rfl Xa1.out|exact WInd_index_sq _ _ _ _ _ _ _ _ _ _ rfl rfl rfl HEl.out rfl (by first|omega|assumption) (by simp;first|done|omega)|exact XaY _ _ _ _ _ _ _ _ _ _ _ _ rfl rfl rfl HEl.out rfl (by first|omega|assumption)|(apply XcW;(case hs=>(intro _ _ h;cases h));(case hx=>rfl);(case hrun=>(intro w;simp [wtb,AV.val,go_sem];(try go_bits);rfl))))|exact WInd_index_sq _ _ _ _ _ _ _ _ 0 _ rfl rfl rfl HEl.out rfl (by omega) (by simp;first|done|omega)|exact WInd_index_sq _ _ _ _ _ _ _ _ 1 _ rfl rfl rfl HEl.out rfl (by omega) (by simp;first|done|omega)|exact WInd_index_sq _ _ _ _ _ _ _ _ 2 _ rfl rfl rfl HEl.out rfl (by omega) (by simp;first|done|omega)|exact WInd_index_sq _ _ _ _ _ _ _ _ 3 _ rfl rfl rfl HEl.out rfl (by omega) (by simp;first|done|omega)|exact WInd_index_sq _ _ _ _ _ _ _ _ 4 _ rfl rfl rfl HEl.out rfl (by omega) (by simp;first|done|omega)|exact WInd_index_sq _ _ _ _ _ _ _ _ 5 _ rfl rfl rfl HEl.out rfl (by omega) (by simp;first|done|omega)|exact Xbf _ _ _ _ _ _ _ rfl rfl (by kernel_rfl) (by first|exact .inl ⟨rfl,rfl⟩|exact .inr ⟨_,_,rfl,rfl⟩) (by first|exact .inl ⟨rfl,rfl⟩|exact .inr ⟨_,_,rfl,rfl⟩) (by simp;done) (by simp;first|done|omega)))));(apply Xce;(case hT=>((try simp (disch:=first|assumption|omega) only [wtn,List.drop_zero,Xvx,Xvu,Xvv,Xvy,XvC,Nat.reduceAdd,Nat.reduceMul,Nat.reduceSub,↓reduceIte,Nat.reduceEqDiff]);rfl));(case hH=>rfl));(first|refine Xbz 2 rfl rfl (by kernel_rfl) (by intro c T H hp;simp [Xbx,XaC,XbG,XcQ] at hp) _ _ _ _ _ rfl rfl XaR.out (by first|exact Xvs rfl|(simp [wlq];first|done|omega)) (by first|exact Xvs rfl|(simp [wlq];first|done|omega)) ?_|(apply Xcf 2 rfl rfl (by kernel_rfl) (by intro c T H hp;simp [Xbx,XaC,XbG,XcQ] at hp);(case h=>(first|(first|exact Xbm _ rfl|exact Xcw _ rfl|exact XbM _ _ _ rfl rfl|exact XaT _ _ _ _ _ _ rfl rfl Xa1.out|exact WInd_nil_at _ _ rfl rfl|exact WInd_index_str _ _ _ _ _ _ _ rfl rfl rfl (by kernel_rfl) rfl (by omega)|exact WInd_field_at _ _ _ _ _ rfl rfl Xa1.out|exact WInd_index_sq _ _ _ _ _ _ _ _ _ _ rfl rfl rfl HEl.out rfl (by first|omega|assumption) (by simp;first|done|omega)|exact XaY _ _ _ _ _ _ _ _ _ _ _ _ rfl rfl rfl HEl.out rfl (by first|omega|assumption)|(apply XcW;(case hs=>(intro _ _ h;cases h));(case hx=>rfl);(case hrun=>(intro w;simp [wtb,AV.val,go_sem];(try go_bits);rfl))))|exact WInd_index_sq _ _ _ _ _ _ _ _ 0 _ rfl rfl rfl HEl.out rfl (by omega) (by simp;first|done|omega)|exact WInd_index_sq _ _ _ _ _ _ _ _ 1 _ rfl rfl rfl HEl.out rfl (by omega) (by simp;first|done|omega)|exact WInd_index_sq _ _ _ _ _ _ _ _ 2 _ rfl rfl rfl HEl.out rfl (by omega) (by simp;first|done|omega)|exact WInd_index_sq _ _ _ _ _ _ _ _ 3 _ rfl rfl rfl HEl.out rfl (by omega) (by simp;first|done|omega)|exact WInd_index_sq _ _ _ _ _ _ _ _ 4 _ rfl rfl rfl HEl.out rfl (by omega) (by simp;first|done|omega)|exact WInd_index_sq _ _ _ _ _ _ _ _ 5 _ rfl rfl rfl HEl.out rfl (by omega) (by simp;first|done|omega)|exact Xbf _ _ _ _ _ _ _ rfl rfl (by kernel_rfl) (by first|exact .inl ⟨rfl,rfl⟩|exact .inr ⟨_,_,rfl,rfl⟩) (by first|exact .inl ⟨rfl,rfl⟩|exact .inr ⟨_,_,rfl,rfl⟩) (by simp;done) (by simp;first|done|omega)))));(apply Xce;(case hT=>((try simp (disch:=first|assumption|omega) only [wtn,List.drop_zero,Xvx,Xvu,Xvv,Xvy,XvC,Nat.reduceAdd,Nat.reduceMul,Nat.reduceSub,↓reduceIte,Nat.reduceEqDiff]);rfl));(case hH=>rfl));(first|refine Xbz 3 rfl rfl (by kernel_rfl) (by intro c T H hp;simp [Xbx,XaC,XbG,XcQ] at hp) _ _ _ _ _ rfl rfl XaR.out (by first|exact Xvs rfl|(simp [wlq];first|done|omega)) (by first|exact Xvs rfl|(simp [wlq];first|done|omega)) ?_|(apply Xcf 3 rfl rfl (by kernel_rfl) (by intro c T H hp;simp [Xbx,XaC,XbG,XcQ] at hp);(case h=>(first|(first|exact Xbm _ rfl|exact Xcw _ rfl|exact XbM _ _ _ rfl rfl|exact XaT _ _ _ _ _ _ rfl rfl Xa1.out|exact WInd_nil_at _ _ rfl rfl|exact WInd_index_str _ _ _ _ _ _ _ rfl rfl rfl (by kernel_rfl) rfl (by omega)|exact WInd_field_at _ _ _ _ _ rfl rfl Xa1.out|exact WInd_index_sq _ _ _ _ _ _ _ _ _ _ rfl rfl rfl HEl.out rfl (by first|omega|assumption) (by simp;first|done|omega)|exact XaY _ _ _ _ _ _ _ _ _ _ _ _ rfl rfl rfl HEl.out rfl (by first|omega|assumption)|(apply XcW;(case hs=>(intro _ _ h;cases h));(case hx=>rfl);(case hrun=>(intro w;simp [wtb,AV.val,go_sem];(try go_bits);rfl))))|exact WInd_index_sq _ _ _ _ _ _ _ _ 0 _ rfl rfl rfl HEl.out rfl (by omega) (by simp;first|done|omega)|exact WInd_index_sq _ _ _ _ _ _ _ _ 1 _ rfl rfl rfl HEl.out rfl (by omega) (by simp;first|done|omega)|exact WInd_index_sq _ _ _ _ _ _ _ _ 2 _ rfl rfl rfl HEl.out rfl (by omega) (by simp;first|done|omega)|exact WInd_index_sq _ _ _ _ _ _ _ _ 3 _ rfl rfl rfl HEl.out rfl (by omega) (by simp;first|done|omega)|exact WInd_index_sq _ _ _ _ _ _ _ _ 4 _ rfl rfl rfl HEl.out rfl (by omega) (by simp;first|done|omega)|exact WInd_index_sq _ _ _ _ _ _ _ _ 5 _ rfl rfl rfl HEl.out rfl (by omega) (by simp;first|done|omega)|exact Xbf _ _ _ _ _ _ _ rfl rfl (by kernel_rfl) (by first|exact .inl ⟨rfl,rfl⟩|exact .inr ⟨_,_,rfl,rfl⟩) (by first|exact .inl ⟨rfl,rfl⟩|exact .inr ⟨_,_,rfl,rfl⟩) (by simp;done) (by simp;first|done|omega)))));(apply Xce;(case hT=>((try simp (disch:=first|assumption|omega) only [wtn,List.drop_zero,Xvx,Xvu,Xvv,Xvy,XvC,Nat.reduceAdd,Nat.reduceMul,Nat.reduceSub,↓reduceIte,Nat.reduceEqDiff]);rfl));(case hH=>rfl))
  refine XiG ?_
  (repeat ((first|refine XlG 4 ?_|refine XlG 5 ?_|refine XlG 6 ?_|refine XlG 7 ?_);(first|refine Xcb ?_|refine Xax ?_|refine Xaw ?_|refine Xav (fun ad cap=>?_)|refine Xat (fun b=>?_)|refine Xas (fun b=>?_)|refine Xau (fun b=>?_)|fail)))
  refine XfM (by decide +kernel) ?_
  (repeat' (first|refine Wkx.go ?_|refine XaJ ?_|refine XaG ?_|(refine XaE (fun h=>?_) (fun h=>?_)<;>first|(exact absurd h (by decide))|(exfalso;omega;done)|skip)|refine XaF ?_|refine Xai ?_|(refine Xaa rfl ?_;(first|refine Xax ?_|refine Xaw ?_|refine Xav (fun ad cap=>?_)|refine Xat (fun b=>?_)|refine Xas (fun b=>?_)|refine Xau (fun b=>?_)|fail))|fail))
  rw [XrG c r (by assumption) (by assumption) (by first|omega|(simp at h;omega)|(trace_state;fail))]
  exact Xab _ _ (Xoc rfl (RV.tmp _) (RV.tmp _) (RV.tmp _) (RV.tmp _) (Xaq.mk' [] [] (Xvt _) (Xap.refl _ _) (VwL.refl _ _))) ⟨by (simp only [XlF];(first|rfl|(simp [bs];done))),rfl⟩
 ·skip
  cases hqq:quo r with
  | none=>
    simp only [hqq,Xh9]
    (repeat' (first|refine Wkx.go ?_|refine XaG ?_|(refine XaE (fun h=>?_) (fun h=>?_)<;>first|(exact absurd h (by decide))|(exfalso;omega;done)|skip)|refine XaF ?_|refine Xai ?_|(refine Xaa rfl ?_;(first|refine Xax ?_|refine Xaw ?_|refine Xav (fun ad cap=>?_)|refine Xat (fun b=>?_)|refine Xas (fun b=>?_)|refine Xau (fun b=>?_)|fail))|fail))
    rw [Xnc c r (by assumption) (by assumption) (by omega)]
    simp only [hqq]
    exact Xab _ _ (Xoc rfl (RV.tmp _) (RV.tmp _) (RV.tmp _) (RV.tmp _) (Xaq.mk' [] [] (Xvt _) (Xap.refl _ _) (VwL.refl _ _))) ⟨by (simp only [XlF];(first|rfl|(simp [bs];done))),rfl⟩
  | some x=>
    simp only [hqq,Xh9]
    (repeat' (first|refine Wkx.go ?_|refine XaG ?_|(refine XaE (fun h=>?_) (fun h=>?_)<;>first|(exact absurd h (by decide))|(exfalso;omega;done)|skip)|refine XaF ?_|refine Xai ?_|(refine Xaa rfl ?_;(first|refine Xax ?_|refine Xaw ?_|refine Xav (fun ad cap=>?_)|refine Xat (fun b=>?_)|refine Xas (fun b=>?_)|refine Xau (fun b=>?_)|fail))|fail))
    rw [Xnc c r (by assumption) (by assumption) (by omega)]
    simp only [hqq]
    exact Xab _ _ (Xoc rfl (RV.tmp _) (RV.tmp _) (RV.tmp _) (RV.tmp _) (Xaq.mk' [] [] (Xvt _) (Xap.refl _ _) (VwL.refl _ _))) ⟨by (simp only [XlF];(first|rfl|(simp [bs];done))),rfl⟩
 ·cases hqq:sla r with
  | none=>
    simp only [hqq,Xh9]
    (repeat' (first|refine Wkx.go ?_|refine XaG ?_|(refine XaE (fun h=>?_) (fun h=>?_)<;>first|(exact absurd h (by decide))|(exfalso;omega;done)|skip)|refine XaF ?_|refine Xai ?_|(refine Xaa rfl ?_;(first|refine Xax ?_|refine Xaw ?_|refine Xav (fun ad cap=>?_)|refine Xat (fun b=>?_)|refine Xas (fun b=>?_)|refine Xau (fun b=>?_)|fail))|fail))
    rw [Xnb c r (by assumption) (by assumption) (by omega)]
    simp only [hqq]
    exact Xab _ _ (Xoc rfl (RV.tmp _) (RV.tmp _) (RV.tmp _) (RV.tmp _) (Xaq.mk' [] [] (Xvt _) (Xap.refl _ _) (VwL.refl _ _))) ⟨by (simp only [XlF];(first|rfl|(simp [bs];done))),rfl⟩
  | some x=>
    simp only [hqq,Xh9]
    (repeat' (first|refine Wkx.go ?_|refine XaG ?_|(refine XaE (fun h=>?_) (fun h=>?_)<;>first|(exact absurd h (by decide))|(exfalso;omega;done)|skip)|refine XaF ?_|refine Xai ?_|(refine Xaa rfl ?_;(first|refine Xax ?_|refine Xaw ?_|refine Xav (fun ad cap=>?_)|refine Xat (fun b=>?_)|refine Xas (fun b=>?_)|refine Xau (fun b=>?_)|fail))|fail))
    rw [Xnb c r (by assumption) (by assumption) (by omega)]
    simp only [hqq]
    exact Xab _ _ (Xoc rfl (RV.tmp _) (RV.tmp _) (RV.tmp _) (RV.tmp _) (Xaq.mk' [] [] (Xvt _) (Xap.refl _ _) (VwL.refl _ _))) ⟨by (simp only [XlF];(first|rfl|(simp [bs];done))),rfl⟩
 ·skip
  refine XeU mixed ?_
  (first|refine Xbz 0 rfl rfl (by kernel_rfl) (by intro c T H hp;simp [Xbx,XaC,XbG,XcQ] at hp) _ _ _ _ _ rfl rfl XaR.out (by first|exact Xvs rfl|(simp [wlq];first|done|omega)) (by first|exact Xvs rfl|(simp [wlq];first|done|omega)) ?_|(apply Xcf 0 rfl rfl (by kernel_rfl) (by intro c T H hp;simp [Xbx,XaC,XbG,XcQ] at hp);(case h=>(first|(first|exact Xbm _ rfl|exact Xcw _ rfl|exact XbM _ _ _ rfl rfl|exact XaT _ _ _ _ _ _ rfl rfl Xa1.out|exact WInd_nil_at _ _ rfl rfl|exact WInd_index_str _ _ _ _ _ _ _ rfl rfl rfl (by kernel_rfl) rfl (by omega)|exact WInd_field_at _ _ _ _ _ rfl rfl Xa1.out|exact WInd_index_sq _ _ _ _ _ _ _ _ _ _ rfl rfl rfl HEl.out rfl (by first|omega|assumption) (by simp;first|done|omega)|exact XaY _ _ _ _ _ _ _ _ _ _ _ _ rfl rfl rfl HEl.out rfl (by first|omega|assumption)|(apply XcW;(case hs=>(intro _ _ h;cases h));(case hx=>rfl);(case hrun=>(intro w;simp [wtb,AV.val,go_sem];(try go_bits);rfl))))|exact WInd_index_sq _ _ _ _ _ _ _ _ 0 _ rfl rfl rfl HEl.out rfl (by omega) (by simp;first|done|omega)|exact WInd_index_sq _ _ _ _ _ _ _ _ 1 _ rfl rfl rfl HEl.out rfl (by omega) (by simp;first|done|omega)|exact WInd_index_sq _ _ _ _ _ _ _ _ 2 _ rfl rfl rfl HEl.out rfl (by omega) (by simp;first|done|omega)|exact WInd_index_sq _ _ _ _ _ _ _ _ 3 _ rfl rfl rfl HEl.out rfl (by omega) (by simp;first|done|omega)|exact WInd_index_sq _ _ _ _ _ _ _ _ 4 _ rfl rfl rfl HEl.out rfl (by omega) (by simp;first|done|omega)|exact WInd_index_sq _ _ _ _ _ _ _ _ 5 _ rfl rfl rfl HEl.out rfl (by omega) (by simp;first|done|omega)|exact Xbf _ _ _ _ _ _ _ rfl rfl (by kernel_rfl) (by first|exact .inl ⟨rfl,rfl⟩|exact .inr ⟨_,_,rfl,rfl⟩) (by first|exact .inl ⟨rfl,rfl⟩|exact .inr ⟨_,_,rfl,rfl⟩) (by simp;done) (by simp;first|done|omega)))));(apply Xce;(case hT=>((try simp (disch:=first|assumption|omega) only [wtn,List.drop_zero,Xvx,Xvu,Xvv,Xvy,XvC,Nat.reduceAdd,Nat.reduceMul,Nat.reduceSub,↓reduceIte,Nat.reduceEqDiff]);rfl));(case hH=>rfl));(first|refine Xbz 1 rfl rfl (by kernel_rfl) (by intro c T H hp;simp [Xbx,XaC,XbG,XcQ] at hp) _ _ _ _ _ rfl rfl XaR.out (by first|exact Xvs rfl|(simp [wlq];first|done|omega)) (by first|exact Xvs rfl|(simp [wlq];first|done|omega)) ?_|(apply Xcf 1 rfl rfl (by kernel_rfl) (by intro c T H hp;simp [Xbx,XaC,XbG,XcQ] at hp);(case h=>(first|(first|exact Xbm _ rfl|exact Xcw _ rfl|exact XbM _ _ _ rfl rfl|exact XaT _ _ _ _ _ _ rfl rfl Xa1.out|exact WInd_nil_at _ _ rfl rfl|exact WInd_index_str _ _ _ _ _ _ _ rfl rfl rfl (by kernel_rfl) rfl (by omega)|exact WInd_field_at _ _ _ _ _ rfl rfl Xa1.out|exact WInd_index_sq _ _ _ _ _ _ _ _ _ _ rfl rfl rfl HEl.out rfl (by first|omega|assumption) (by simp;first|done|omega)|exact XaY _ _ _ _ _ _ _ _ _ _ _ _ rfl rfl rfl HEl.out rfl (by first|omega|assumption)|(apply XcW;(case hs=>(intro _ _ h;cases h));(case hx=>rfl);(case hrun=>(intro w;simp [wtb,AV.val,go_sem];(try go_bits);rfl))))|exact WInd_index_sq _ _ _ _ _ _ _ _ 0 _ rfl rfl rfl HEl.out rfl (by omega) (by simp;first|done|omega)|exact WInd_index_sq _ _ _ _ _ _ _ _ 1 _ rfl rfl rfl HEl.out rfl (by omega) (by simp;first|done|omega)|exact WInd_index_sq _ _ _ _ _ _ _ _ 2 _ rfl rfl rfl HEl.out rfl (by omega) (by simp;first|done|omega)|exact WInd_index_sq _ _ _ _ _ _ _ _ 3 _ rfl rfl rfl HEl.out rfl (by omega) (by simp;first|done|omega)|exact WInd_index_sq _ _ _ _ _ _ _ _ 4 _ rfl rfl rfl HEl.out rfl (by omega) (by simp;first|done|omega)|exact WInd_index_sq _ _ _ _ _ _ _ _ 5 _ rfl rfl rfl HEl.out rfl (by omega) (by simp;first|done|omega)|exact Xbf _ _ _ _ _ _ _ rfl rfl (by kernel_rfl) (by first|exact .inl ⟨rfl,rfl⟩|exact .inr ⟨_,_,rfl,rfl⟩) (by first|exact .inl ⟨rfl,rfl⟩|exact .inr ⟨_,_,rfl,rfl⟩) (by simp;done) (by simp;first|done|omega)))));(apply Xce;(case hT=>((try simp (disch:=first|assumption|omega) only [wtn,List.drop_zero,Xvx,Xvu,Xvv,Xvy,XvC,Nat.reduceAdd,Nat.reduceMul,Nat.reduceSub,↓reduceIte,Nat.reduceEqDiff]);rfl));(case hH=>rfl))
  refine XiG ?_
  (repeat ((first|refine XlG 2 ?_|refine XlG 3 ?_|refine XlG 4 ?_|refine XlG 5 ?_);(first|refine Xcb ?_|refine Xax ?_|refine Xaw ?_|refine Xav (fun ad cap=>?_)|refine Xat (fun b=>?_)|refine Xas (fun b=>?_)|refine Xau (fun b=>?_)|fail)))
  refine XfM (by decide +kernel) ?_
  (repeat' (first|refine Wkx.go ?_|refine XaJ ?_|refine XaG ?_|(refine XaE (fun h=>?_) (fun h=>?_)<;>first|(exact absurd h (by decide))|(exfalso;omega;done)|skip)|refine XaF ?_|refine Xai ?_|(refine Xaa rfl ?_;(first|refine Xax ?_|refine Xaw ?_|refine Xav (fun ad cap=>?_)|refine Xat (fun b=>?_)|refine Xas (fun b=>?_)|refine Xau (fun b=>?_)|fail))|fail))
  rw [Xo3 c r (by assumption) (by assumption) (by first|omega|(simp at h;omega)|(trace_state;fail))]
  exact Xab _ _ (Xoc rfl (RV.tmp _) (RV.tmp _) (RV.tmp _) (RV.tmp _) (Xaq.mk' [] [] (Xvt _) (Xap.refl _ _) (VwL.refl _ _))) ⟨by (simp only [XlF];(first|rfl|(simp [bs];done))),rfl⟩
 ·rw [XrC c r (by assumption) (by assumption) (by omega) (by omega) (by first|omega|(simp at h;omega)|(trace_state;fail))]
  exact Xab _ _ (Xoc rfl (RV.tmp _) (RV.tmp _) (RV.tmp _) (RV.tmp _) (Xaq.mk' [] [] (Xvt _) (Xap.refl _ _) (VwL.refl _ _))) ⟨by (simp only [XlF];(first|rfl|(simp [bs];done))),rfl⟩
def Xle (l:List UInt8):Prop:=∀b∈l,b.toNat≠10
theorem XcC:Xle []:=fun b h=>by cases h
theorem Xbi {c:UInt8} {r:List UInt8} (h:c.toNat≠10) (hr:Xle r):Xle (c :: r):=fun b hb=>by
 rcases List.mem_cons.1 hb with rfl|hb
 ·exact h
 ·exact hr b hb
theorem XoZ {a b:List UInt8} (ha:Xle a) (hb:Xle b):Xle (a++b):=fun x hx=>by
 rcases List.mem_append.1 hx with h|h
 ·exact ha x h
 ·exact hb x h
theorem Xkc:∀(l:List UInt8) (p:Nat × Nat),Xle l→plc p l=(p.1,p.2+l.length)
 | [],p,_=>by simp [plc]
 | c :: r,p,h=>by
   rw [plc,if_neg (h c (List.mem_cons_self ..)),Xkc r _ (fun b hb=>h b (List.mem_cons_of_mem _ hb))]
   simp;omega
theorem XmG {b:UInt8} {n:Nat} (h:Xim b=some n):b.toNat≠10:=by
 unfold Xim at h
 split at h
 ·omega
 ·split at h
  ·omega
  ·split at h
   ·omega
   ·cases h
theorem Xmr {l:List UInt8} {b:UInt8} {n:Nat} (h:Xfk l=some (b,n)):Xle (l.take n):=by
 unfold Xfk at h
 split at h
 ·cases h
 ·rename_i d r
  split at h
  ·cases h;exact Xbi (by omega) XcC
  ·split at h
   ·cases h;exact Xbi (by omega) XcC
   ·split at h
    ·cases h;exact Xbi (by omega) XcC
    ·split at h
     ·split at h
      ·split at h
       ·rename_i h1 h2
        cases h;exact Xbi (by omega) (Xbi (XmG h1) (Xbi (XmG h2) XcC))
       ·cases h
      ·cases h
     ·cases h
theorem Xnk {l:List UInt8} {b:UInt8} {n:Nat} (h:part l=some (b,n)):Xle (l.take n):=by
 unfold part at h
 split at h
 ·cases h
 ·rename_i c r
  split at h
  ·cases h
  ·split at h
   ·cases h;exact Xbi (by omega) XcC
   ·cases he:Xfk r with
    | none=>rw [he] at h;cases h
    | some x=>rw [he] at h;cases h;rw [List.take_succ_cons];exact Xbi (by omega) (Xmr he)
theorem Xkf (l:List UInt8):∀x,quo l=some x→Xle (l.take x.2):=by
 match h:l with
 | []=>intro x hx;rw [Xjm] at hx;cases hx
 | c :: r=>
   intro x hx
   by_cases h1:c.toNat=34
   ·rw [Xjl c r h1] at hx;cases hx;exact Xbi (by omega) XcC
   ·cases hp:part (c :: r) with
    | none=>rw [Xkg c r h1 hp] at hx;cases hx
    | some y=>
      obtain ⟨b,n⟩:=y
      have hle:=Xje hp
      rw [XfB c r b n h1 hp] at hx
      cases hq:quo ((c :: r).drop n) with
      | none=>rw [hq] at hx;cases hx
      | some z=>
        have:=Xkf ((c :: r).drop n) z hq
        rw [hq] at hx;cases hx
        simp only
        rw [List.take_add]
        exact XoZ (Xnk hp) this
termination_by l.length
decreasing_by subst h;simp;omega
theorem XfD (l:List UInt8):∀x,sla l=some x→Xle (l.take x.2):=by
 match h:l with
 | []=>intro x hx;rw [Xjy] at hx;cases hx
 | c :: r=>
   intro x hx
   by_cases h1:c.toNat=47
   ·rw [Xjw c r h1] at hx;cases hx;exact Xbi (by omega) XcC
   by_cases h2:c.toNat < 32
   ·rw [Xjv c r h2] at hx;cases hx
   by_cases h3:c.toNat=92
   ·match r,hx with
    | [],hx=>rw [Xhi c h3] at hx;cases hx
    | d :: r,hx=>
      by_cases h4:d.toNat < 32
      ·rw [Xhh c d r h3 h4] at hx;cases hx
      by_cases h5:d.toNat=47
      ·rw [Xjx c d r h3 h5] at hx
       cases hq:sla r with
       | none=>rw [hq] at hx;cases hx
       | some z=>have:=XfD r z hq;rw [hq] at hx;cases hx;simp only [Nat.add_comm 2,List.take_succ_cons];exact Xbi (by omega) (Xbi (by omega) this)
      ·rw [XjA c d r h3 (by omega) h5] at hx
       cases hq:sla r with
       | none=>rw [hq] at hx;cases hx
       | some z=>have:=XfD r z hq;rw [hq] at hx;cases hx;simp only [Nat.add_comm 2,List.take_succ_cons];exact Xbi (by omega) (Xbi (by omega) this)
   ·rw [Xjz c r h1 (by omega) h3] at hx
    cases hq:sla r with
    | none=>rw [hq] at hx;cases hx
    | some z=>have:=XfD r z hq;rw [hq] at hx;cases hx;simp only [Nat.add_comm 1,List.take_succ_cons];exact Xbi (by omega) this
termination_by l.length
decreasing_by
 all_goals subst h;simp;try omega
theorem Xhk (p:UInt8→Bool) (hp:∀b,p b=true→b.toNat≠10):∀l:List UInt8,Xle (l.take (spn p l))
 | []=>XcC
 | c :: r=>by
   cases h:p c with
   | false=>rw [Xql _ _ _ h];exact XcC
   | true=>rw [Xgk _ _ _ h,List.take_succ_cons];exact Xbi (hp c h) (Xhk p hp r)
theorem Xo0 {l:List UInt8} {x:Int × List UInt8 × Nat} (h:one l=.ok x):Xle (l.take x.2.2):=by
 cases l with
 | nil=>simp [one] at h
 | cons c r=>
   simp only [one] at h
   split at h
   ·cases h
    exact Xhk XeA (fun b hb=>by simp only [XeA,XbX,Xez,Bool.or_eq_true,decide_eq_true_eq] at hb;omega) _
   ·split at h
    ·split at h
     ·cases h
     ·cases h
      exact Xhk XbX (fun b hb=>by simp only [XbX,decide_eq_true_eq] at hb;omega) _
    ·split at h
     ·cases hq:quo r with
      | none=>rw [hq] at h;cases h
      | some y=>rw [hq] at h;cases h;exact Xbi (by omega) (Xkf r y hq)
     ·split at h
      ·cases hq:sla r with
       | none=>rw [hq] at h;cases h
       | some y=>rw [hq] at h;cases h;exact Xbi (by omega) (XfD r y hq)
      ·split at h
       ·cases h;exact Xbi (by omega) XcC
       ·cases h
theorem XrQ {l:List UInt8} {k:Nat} {a:Int} {t:List UInt8} {m:Nat} (h:one (l.drop k)=.ok (a,t,m)):plc (1,1) (l.take (k+m))=((plc (1,1) (l.take k)).1,(plc (1,1) (l.take k)).2+m):=by
 rw [←Xfm,Xkc _ _ (Xo0 h),List.length_take]
 have:=Xgb h
 simp only at this
 rw [Nat.min_eq_left this.2.1]
end Go.Proofs.YtdlblokjfoggpaaGreatDoor
