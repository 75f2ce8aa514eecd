import Derived.Test.YtdlblokjfoggpaaGreatDoorW7
import Derived.Test.YtdlblokjfoggpaaGreatDoorW10
import Derived.Test.YtdlblokjfoggpaaGreatDoorW13
import Derived.Test.YtdlblokjfoggpaaGreatDoorW11
import Derived.Test.YtdlblokjfoggpaaGreatDoorW6
import Derived.Test.YtdlblokjfoggpaaGreatDoorW8
import Derived.Test.YtdlblokjfoggpaaGreatDoorW9
/- The program's patterns: sets of bytes (span, union, others); isMark. -/
set_option linter.unusedSimpArgs false
set_option linter.unusedVariables false
set_option maxRecDepth 100000
set_option maxHeartbeats 8000000
namespace Go.Proofs.YtdlblokjfoggpaaGreatDoor
open Go.RowKit
instance:Xoa Tryz.prog 74 4 24 1:=⟨by kernel_rfl,by kernel_rfl⟩
theorem Xln (a c:Nat) (h:a≤c):(List.range' a (c+1 - a)).foldl (fun n c=>n ||| 1 <<< c) 0=(List.range' a (c - a)).foldl (fun n c=>n ||| 1 <<< c) 0 ||| 1 <<< c:=by
 rw [show c+1 - a=(c - a)+1 by omega,List.range'_concat,List.foldl_append]
 simp only [Xvu,Xvv]
 rw [show a+1*(c - a)=c by omega]
def XeN (a c:Nat):Nat:=(List.range' a (c - a)).foldl (fun n c=>n ||| 1 <<< c) 0
theorem Xlm (a:Nat):XeN a a=0:=by simp [XeN]
theorem XnN (a c:Nat) (h:a≤c∧c < 256):spl (w4 (XeN a c)) (c / 64) [.x (.int .u64 ((wd (XeN a c) (c / 64) ||| XpN (c % 64):Nat):Int))]=w4 (XeN a (c+1)):=by
 rw [XtT _ _ h.2];unfold XeN;rw [Xln a c h.1]
theorem Xb9 (x y:Nat) (hx:x < 256) (hy:y < 256):XaM Tryz.prog 201 [] [.x (.int .u8 x),.x (.int .u8 y)] (fun r H'=>r=.x (v4 (XcK x y))∧H'=[]):=by
 refine Xbs Tryz.func201 Tryz.ntmps201 ?_
 (repeat' (first|refine Wkx.go ?_|refine XaJ ?_|refine XaG ?_|(refine XaE (fun h=>?_) (fun h=>?_)<;>first|(exact absurd h (by decide))|(exfalso;omega;done)|skip)|refine XaF ?_|refine Xai ?_|(refine Xaa rfl ?_;(first|refine Xax ?_|refine Xaw ?_|refine Xav (fun ad cap=>?_)|refine Xat (fun b=>?_)|refine Xas (fun b=>?_)|refine Xau (fun b=>?_)|fail))|fail))
 rename_i br
 rw [←XjG,←(by rw [Xlm]:w4 (XeN x x)=w4 0)]
 refine XaA (S:=Nat) (fun c=>frm 25 [(0,.x (.int .u8 x)),(1,.x (.int .u8 y)),(4,.x (.pointer (some ⟨br,0,none⟩))),(5,.x (.pointer (some ⟨b,0,none⟩))),(6,.x (.int .i64 c))]) (fun c=>[.box b (w4 (XeN x c)),.box br (w4 (XeN x x))]) (fun c=>x≤c∧(c≤y+1∨c=x)) (fun c=>257 - c) x (XbQ (D:=[])) ⟨Nat.le_refl _,.inr rfl⟩ fun c hc=>?_
 obtain ⟨hc1,hc2⟩:=hc
 simp only [wfr]
 (have wx:=@w4r;(repeat' (first|refine Wkx.go ?_|refine XaG ?_|(refine XaE (fun h=>?_) (fun h=>?_)<;>first|(exact absurd h (by decide))|(exfalso;omega;done)|skip)|refine XaF ?_|refine Xai ?_|(refine Xaa rfl ?_;(first|refine Xax ?_|refine Xaw ?_|refine Xav (fun ad cap=>?_)|refine Xat (fun b=>?_)|refine Xas (fun b=>?_)|refine Xau (fun b=>?_)|fail))|fail)))<;>(try clear wx)
 ·refine XjO mixed [9] ?_
  (have wx:=@Xsj;((first|refine Xbj 0 ?_|refine XdQ 0 ?_);(first|refine Xbj 1 ?_|refine XdQ 1 ?_);(first|refine Xbj 2 ?_|refine XdQ 2 ?_);(first|refine Xbj 3 ?_|refine XdQ 3 ?_);(first|refine Xbj 4 ?_|refine XdQ 4 ?_);(first|refine Xbj 5 ?_|refine XdQ 5 ?_);(first|refine Xbj 6 ?_|refine XdQ 6 ?_);(first|refine Xbj 7 ?_|refine XdQ 7 ?_);(first|refine Xbj 8 ?_|refine XdQ 8 ?_)))<;>(try clear wx)
  refine XaV (by decide +kernel) ?_
  refine Xag rfl (by simp only [XvE,XvD];rfl) ?_
  (have wx:=And.intro @Nat.mul_one @Nat.zero_add;(refine Xdn 9 ?_;(first|refine Xcb ?_|refine Xax ?_|refine Xaw ?_|refine Xav (fun ad cap=>?_)|refine Xat (fun b=>?_)|refine Xas (fun b=>?_)|refine Xau (fun b=>?_)|fail)))<;>(try clear wx)
  refine Xar (by decide +kernel) ?_
  rw [show spl (w4 (XeN x c)) (c / 64) [AV.x (Value.int IntKind.u64 ↑(wd (XeN x c) (c / 64) ||| XpN (c % 64)))]=w4 (XeN x (c+1)) from XnN x c ⟨hc1,by omega⟩]
  (repeat' (first|refine Wkx.go ?_|refine XaJ ?_|refine XaG ?_|(refine XaE (fun h=>?_) (fun h=>?_)<;>first|(exact absurd h (by decide))|(exfalso;omega;done)|skip)|refine XaF ?_|refine Xai ?_|(refine Xaa rfl ?_;(first|refine Xax ?_|refine Xaw ?_|refine Xav (fun ad cap=>?_)|refine Xat (fun b=>?_)|refine Xas (fun b=>?_)|refine Xau (fun b=>?_)|fail))|fail))
  exact ⟨c+1,by omega,⟨by omega,by omega⟩,(XbQ (D:=[]))⟩
 ·refine Xab _ _ (Xa0 rfl (RV.cell 1 rfl rfl XaR.out (by simp) (by simp)) (Xaq.mk' [_,_] [] (Xvt _) Xap.nil (VwL.refl _ _))) ?_
  refine ⟨?_,rfl⟩
  have e:XeN x c=XcK x y:=by
   unfold XeN XcK
   congr 2
   omega
  rw [←e]
  rfl
theorem XjF (m n:Nat):XaM Tryz.prog 204 [] [.x (v4 m),.x (v4 n)] (fun r H'=>r=.x (v4 (m ||| n))∧H'=[]):=by
 unfold v4
 refine Xbs Tryz.func204 Tryz.ntmps204 ?_
 (repeat' (first|refine Wkx.go ?_|refine XaJ ?_|refine XaG ?_|(refine XaE (fun h=>?_) (fun h=>?_)<;>first|(exact absurd h (by decide))|(exfalso;omega;done)|skip)|refine XaF ?_|refine Xai ?_|(refine Xaa rfl ?_;(first|refine Xax ?_|refine Xaw ?_|refine Xav (fun ad cap=>?_)|refine Xat (fun b=>?_)|refine Xas (fun b=>?_)|refine Xau (fun b=>?_)|fail))|fail))
 rename_i ba bb
 refine XaA (S:=Nat) (fun c=>frm 19 [(2,.x (.pointer (some ⟨ba,0,none⟩))),(3,.x (.pointer (some ⟨bb,0,none⟩))),(4,.x (.pointer (some ⟨b,0,none⟩))),(6,.x (.int .i64 c))]) (fun c=>[.box b (w4 0),.box bb (w4 n),.box ba (w4m m (m ||| n) c)]) (fun c=>c≤4) (fun c=>4 - c) 0 (Xaq.mk' [] _ (Xvt _) (Xap.refl _ _) (by (repeat' (first|exact VwL.nil|(refine VwL.cons ?_ ?_)|exact Vw.refl _|exact Vw.top _|exact Vw.nil|(refine Vw.eq ?_;first|rfl|(simp;done)|(congr 3;omega)|(congr 2;omega)))))) (Nat.zero_le _) fun c hc=>?_
 simp only [wfr]
 by_cases h4:c < 4
 ·(repeat' (first|refine Wkx.go ?_|refine XaG ?_|(refine XaE (fun h=>?_) (fun h=>?_)<;>first|(exact absurd h (by decide))|(exfalso;omega;done)|skip)|refine XaF ?_|refine Xai ?_|(refine Xaa rfl ?_;(first|refine Xax ?_|refine Xaw ?_|refine Xav (fun ad cap=>?_)|refine Xat (fun b=>?_)|refine Xas (fun b=>?_)|refine Xau (fun b=>?_)|fail))|fail))
  refine XjO mixed [8] ?_
  (have wx:=And.intro @Xsj @Xqq;((first|refine Xbj 0 ?_|refine XdQ 0 ?_);(first|refine Xbj 1 ?_|refine XdQ 1 ?_);(first|refine Xbj 2 ?_|refine XdQ 2 ?_);(first|refine Xbj 3 ?_|refine XdQ 3 ?_);(first|refine Xbj 4 ?_|refine XdQ 4 ?_);(first|refine Xbj 5 ?_|refine XdQ 5 ?_);(first|refine Xbj 6 ?_|refine XdQ 6 ?_);(first|refine Xbj 7 ?_|refine XdQ 7 ?_)))<;>(try clear wx)
  refine XaV (by decide +kernel) ?_
  refine Xag rfl (by simp only [XvE,XvD];rfl) ?_
  (have wx:=And.intro @Nat.mul_one (And.intro @Nat.zero_add (And.intro (fun x y k=>(XtX x y k).symm) @Xn2));(refine Xdn 8 ?_;(first|refine Xcb ?_|refine Xax ?_|refine Xaw ?_|refine Xav (fun ad cap=>?_)|refine Xat (fun b=>?_)|refine Xas (fun b=>?_)|refine Xau (fun b=>?_)|fail)))<;>(try clear wx)
  refine Xar (by decide +kernel) ?_
  (repeat' (first|refine Wkx.go ?_|refine XaJ ?_|refine XaG ?_|(refine XaE (fun h=>?_) (fun h=>?_)<;>first|(exact absurd h (by decide))|(exfalso;omega;done)|skip)|refine XaF ?_|refine Xai ?_|(refine Xaa rfl ?_;(first|refine Xax ?_|refine Xaw ?_|refine Xav (fun ad cap=>?_)|refine Xat (fun b=>?_)|refine Xas (fun b=>?_)|refine Xau (fun b=>?_)|fail))|fail))
  exact ⟨c+1,by omega,by omega,(XbQ (D:=[]))⟩
 ·obtain rfl:c=4:=by omega
  rw [Xkt]
  (have wx:=@w4r;(repeat' (first|refine Wkx.go ?_|refine XaJ ?_|refine XaG ?_|(refine XaE (fun h=>?_) (fun h=>?_)<;>first|(exact absurd h (by decide))|(exfalso;omega;done)|skip)|refine XaF ?_|refine Xai ?_|(refine Xaa rfl ?_;(first|refine Xax ?_|refine Xaw ?_|refine Xav (fun ad cap=>?_)|refine Xat (fun b=>?_)|refine Xas (fun b=>?_)|refine Xau (fun b=>?_)|fail))|fail)))<;>(try clear wx)
  refine Xab _ _ (Xa0 rfl (RV.cell 0 rfl rfl XaR.out (by simp) (by simp)) (Xaq.mk' [_,_,_] [] (Xvt _) Xap.nil (VwL.refl _ _))) ?_
  exact ⟨rfl,rfl⟩
theorem Xhe (m:Nat):XaM Tryz.prog 200 [] [.x (v4 m)] (fun r H'=>r=.x (v4 (XhL m))∧H'=[]):=by
 unfold v4
 refine Xbs Tryz.func200 Tryz.ntmps200 ?_
 (repeat' (first|refine Wkx.go ?_|refine XaJ ?_|refine XaG ?_|(refine XaE (fun h=>?_) (fun h=>?_)<;>first|(exact absurd h (by decide))|(exfalso;omega;done)|skip)|refine XaF ?_|refine Xai ?_|(refine Xaa rfl ?_;(first|refine Xax ?_|refine Xaw ?_|refine Xav (fun ad cap=>?_)|refine Xat (fun b=>?_)|refine Xas (fun b=>?_)|refine Xau (fun b=>?_)|fail))|fail))
 rename_i ba
 refine XaA (S:=Nat) (fun c=>frm 15 [(1,.x (.pointer (some ⟨ba,0,none⟩))),(2,.x (.pointer (some ⟨b,0,none⟩))),(4,.x (.int .i64 c))]) (fun c=>[.box b (w4 0),.box ba (w4m m (XhL m) c)]) (fun c=>c≤4) (fun c=>4 - c) 0 (Xaq.mk' [] _ (Xvt _) (Xap.refl _ _) (by (repeat' (first|exact VwL.nil|(refine VwL.cons ?_ ?_)|exact Vw.refl _|exact Vw.top _|exact Vw.nil|(refine Vw.eq ?_;first|rfl|(simp;done)|(congr 3;omega)|(congr 2;omega)))))) (Nat.zero_le _) fun c hc=>?_
 simp only [wfr]
 by_cases h4:c < 4
 ·have hw:=XpH m c h4
  (have wx:=And.intro @Nat.mul_one (And.intro @Nat.zero_add (And.intro @Xqq (And.intro (hw).symm @Xn2)));(repeat' (first|refine Wkx.go ?_|refine XaJ ?_|refine XaG ?_|(refine XaE (fun h=>?_) (fun h=>?_)<;>first|(exact absurd h (by decide))|(exfalso;omega;done)|skip)|refine XaF ?_|refine Xn3 ?_|refine Xai ?_|(refine Xaa rfl ?_;(first|refine Xax ?_|refine Xaw ?_|refine Xav (fun ad cap=>?_)|refine Xat (fun b=>?_)|refine Xas (fun b=>?_)|refine Xau (fun b=>?_)|fail))|fail)))<;>(try clear wx)
  exact ⟨c+1,by omega,by omega,(XbQ (D:=[]))⟩
 ·obtain rfl:c=4:=by omega
  rw [Xkt]
  (have wx:=@w4r;(repeat' (first|refine Wkx.go ?_|refine XaJ ?_|refine XaG ?_|(refine XaE (fun h=>?_) (fun h=>?_)<;>first|(exact absurd h (by decide))|(exfalso;omega;done)|skip)|refine XaF ?_|refine Xai ?_|(refine Xaa rfl ?_;(first|refine Xax ?_|refine Xaw ?_|refine Xav (fun ad cap=>?_)|refine Xat (fun b=>?_)|refine Xas (fun b=>?_)|refine Xau (fun b=>?_)|fail))|fail)))<;>(try clear wx)
  refine Xab _ _ (Xa0 rfl (RV.cell 0 rfl rfl XaR.out (by simp) (by simp)) (Xaq.mk' [_,_] [] (Xvt _) Xap.nil (VwL.refl _ _))) ?_
  exact ⟨rfl,rfl⟩
theorem Xtm (c:Nat):(decide (33≤(c:Int)) && decide ((c:Int)≤47) || decide (58≤(c:Int)) && decide ((c:Int)≤64) || decide (91≤(c:Int)) && decide ((c:Int)≤96) || decide (123≤(c:Int)) && decide ((c:Int)≤126))=Xuc c:=by
 have h:∀a:Nat,decide ((a:Int)≤(c:Int))=decide (a≤c):=fun a=>by simp
 have k:∀a:Nat,decide ((c:Int)≤(a:Int))=decide (c≤a):=fun a=>by simp
 unfold Xuc
 rw [show (33:Int)=((33:Nat):Int) from rfl,show (58:Int)=((58:Nat):Int) from rfl,show (91:Int)=((91:Nat):Int) from rfl,show (123:Int)=((123:Nat):Int) from rfl,show (47:Int)=((47:Nat):Int) from rfl,show (64:Int)=((64:Nat):Int) from rfl,show (96:Int)=((96:Nat):Int) from rfl,show (126:Int)=((126:Nat):Int) from rfl]
 simp only [h,k]
theorem Xtn (c:Nat) (hc:c < 256):XaM Tryz.prog 205 [] [.x (.int .u8 c)] (fun r H'=>r=.x (.bool (Xuc c))∧H'=[]):=by
 refine Xbs Tryz.func205 Tryz.ntmps205 ?_
 (repeat' (first|refine Wkx.go ?_|refine XaJ ?_|refine XaG ?_|(refine XaE (fun h=>?_) (fun h=>?_)<;>first|(exact absurd h (by decide))|(exfalso;omega;done)|skip)|refine XaF ?_|refine Xai ?_|(refine Xaa rfl ?_;(first|refine Xax ?_|refine Xaw ?_|refine Xav (fun ad cap=>?_)|refine Xat (fun b=>?_)|refine Xas (fun b=>?_)|refine Xau (fun b=>?_)|fail))|fail))
 refine Xab _ _ (Xa0 rfl (RV.tmp _) (XcJ (D:=[]))) ?_
 exact ⟨congrArg (fun q=>AV.x (.bool q)) (Xtm c),rfl⟩
section
variable {P:Program} {Δ:List Deferred} {V O:Nat→Prop} {w0 w w':World} {H H' D:List Hp} {T T':List AV} {a:Act} {o:Oper} {K:List AV→List Hp→Prop} {ρ:Operand→AV}
theorem Xgs (t e:TypeId) (x:Operand) (L size b:Nat) (ho:o.op=.slice t x none none none) (hx:ρ x=.x (.pointer (some ⟨b,0,none⟩))) (hA:P.underlying t=some (.array L e)∧(P.info? e).map (·.size)=some size) :
  XeR P o ρ H (.x (.slice (some ⟨b,0,none⟩) L L)):=by
 intro V a w ok
 have e1:=ok.evx (by simp [ho,Op.operands]) hx
 obtain ⟨ht,hs⟩:=hA
 obtain ⟨inf,hi1,hi2⟩:=Option.map_eq_some_iff.1 hs
 refine ⟨_,fun w'=>?_,by rw [Den]⟩
 have hadd:(⟨b,0,none⟩:Addr).add 0=⟨b,0,none⟩:=Xcp b 0 0
 simp [execOp,ho,e1,Instr.sliceAt,run_underlying ht,Instr.sureAddr,Instr.sliceBounds,Xcp,sizeOf,typeInfo,hi1,hi2,hadd,Result.andThen]
def Xvg (ρ:Operand→AV) (H:List Hp) (x:Operand) (m:Nat) (news:List AV):Prop:=
 (∃ad c,ρ x=.x (.slice ad 0 c)∧m=0∧news=[]) ∨
 ∃(q g off c n cap:Nat) (e:TypeId) (cells:List AV),ρ x=.x (.slice (some ⟨g,off,none⟩) m c)∧H[q]?=some (.row (some ⟨g,0,none⟩) n cap e 1 cells)∧off+m≤n∧news=(cells.drop off).take m
theorem XgP (i:Nat) (x y:Operand) (t u e:TypeId) (b dl dc m:Nat) (cells news:List AV) (ho:o.op=.call { callee:=.builtin .copy,args:=#[x,y],argTypes:=#[t,u] }) (hx:ev T x=.x (.slice (some ⟨b,0,none⟩) dl dc)) (hi:H[i]?=some (.box b cells))
  (ht:elT P t=some (e,1)) (hy:Xvg (ev T) H y m news) (hm:m≤dl) (hc:m≤cells.length)
  (hK:K (Xbd T o.dst (.x (.int .i64 m))) (H.set i (.box b (spl cells 0 news)))):Stp P o T H K:=by
 intro Δ V O w0 a w Kc Q r hKc
 obtain ⟨vals,hd,hl,hcl⟩:=r.hp i _ hi
 have hvl:=hd.len
 obtain ⟨i1,hE1,hE2⟩:∃inf,P.underlying t=some (.slice e)∧P.info? e=some inf∧inf.size=1:=by
  unfold elT at ht
  simp only [Option.bind_eq_bind] at ht
  split at ht
  ·rename_i e0 h0
   obtain ⟨inf,h3,h4⟩:=Option.bind_eq_some_iff.1 ht
   simp only [Option.some.injEq,Prod.mk.injEq] at h4
   obtain ⟨rfl,h4⟩:=h4
   exact ⟨inf,h0,h3,h4⟩
  ·cases ht
 obtain ⟨hinf,hsz⟩:=hE2
 -- what is read
 obtain ⟨sv,nv,hsv,hnd,hnl,hone,hfirst⟩:∃(sv:Value) (nv:List Value),a.eval y=sv∧DenL (FB V H) w news nv∧nv.length=m∧(∀u∈nv,u.oneCell'=true)∧(∃ad c,sv=.slice ad m c)∧(Builtin.firstCells 1 m sv).run P w=.ok nv.toArray w:=by
  rcases hy with ⟨ad,c,h1,rfl,rfl⟩|⟨q,g,off,c,n,cap,e',rc,h1,h2,h3,rfl⟩
  ·refine ⟨_,[],r.evx h1,by rw [DenL],rfl,by simp,⟨ad,c,rfl⟩,?_⟩
   cases ad with
   | none=>exact run_firstCells_none (P:=P) w 1 0 0 c
   | some x=>exact run_firstCells_some (P:=P) w 1 0 x 0 c [] rfl (fun j v h=>by simp at h)
  ·obtain ⟨rv,hrd,hown,hrone⟩:=r.hp q _ h2
   have hcs:=hown.cells (g:=g) rfl
   refine ⟨_,(rv.drop off).take m,r.evx h1,(hrd.drop off).take m,?_,fun u hu=>hrone u (List.mem_of_mem_drop (List.mem_of_mem_take hu)),⟨_,c,rfl⟩,?_⟩
   ·have:=hown.1
    rw [List.length_take,List.length_drop];omega
   ·refine run_firstCells_some (P:=P) w 1 m _ m c _ ?_ fun j v hj=>?_
    ·have:=hown.1
     rw [List.length_take,List.length_drop];omega
    ·rw [List.getElem?_take] at hj
     split at hj
     ·rw [List.getElem?_drop] at hj
      have:=hcs _ v hj
      rw [Xcp] at this ⊢
      rwa [Nat.zero_add] at this
     ·cases hj
 obtain ⟨⟨sad,sc,rfl⟩,hfirst⟩:=hfirst
 have hlen:news.length=m:=by rw [←hnd.len,hnl]
 obtain ⟨w',hr,g1,g2,g3,g4,g5,g6,g7,g8⟩:=Xct (P:=P) b nv 0 0 w hone (fun j hj=>by
  have hj':j < vals.length:=by omega
  obtain ⟨c1,_,c3⟩:=hcl j vals[j] (by simp [hj'])
  simp only [Nat.zero_add]
  exact ⟨by rw [c1];rfl,c3⟩)
 have hrun:(Builtin.copy_ #[t,u] o.type #[.slice (some ⟨b,0,none⟩) dl dc,.slice sad m sc]).run P w=.ok (.int .i64 m) w':=by
  have hmin:Nat.min m dl=m:=Nat.min_eq_left hm
  simp [Builtin.copy_,run_underlying hE1,Builtin.lenOf,sizeOf,typeInfo,hinf,hsz,hmin,hfirst,hr,goInt,Result.andThen]
 unfold Oper.wp execOp
 simp only [ho,resolve,invoke,builtin,Sem.run_bind,Sem.run_pure,Result.andThen_ok,List.map_toArray,Xvy,XvC,r.evx hx,hsv,hrun,Oper.upon]
 refine hKc _ _ _ _ hK (Rel.put (Rel.turnAt (w':=w') (y:=.box b (spl cells 0 news)) r i hi g1 g2 g3 (by omega) (fun k _ hk=>g5 k (fun e=>hk (by rw [e];rfl))) (fun k hk=>⟨by cases hk;omega,.inl hk⟩) ?_) _ (by rw [Den]))
 have hF:∀k,FB V (H.set i (.box b (spl cells 0 news))) k→FB V H k:=by
  intro k hk
  rcases hk with hk|⟨z,hz,e⟩
  ·exact .inl hk
  ·rcases List.mem_or_eq_of_mem_set hz with hz|rfl
   ·exact .inr ⟨z,hz,e⟩
   ·exact .inr ⟨_,List.mem_of_getElem? hi,e⟩
 have hw:∀k,k < w.heap.size→¬FB V H k→w'.heap[k]?=w.heap[k]?:=fun k _ hn=>g5 k fun e=>hn (.inr ⟨_,List.mem_of_getElem? hi,by rw [e];rfl⟩)
 refine ⟨vals.take 0++nv++vals.drop (0+nv.length),DenL.conv (fun k hk=>.inl (hF k hk)) hw _ _ (hd.spl hnd 0),by omega,fun j u hj=>?_⟩
 simp only [List.take_zero,XvD,Nat.zero_add] at hj
 by_cases h4:j < nv.length
 ·rw [List.getElem?_append_left h4] at hj
  have e:=g6 j h4
  simp only [Nat.zero_add] at e
  refine ⟨by rw [e];exact hj,hone u (List.mem_of_getElem? hj),?_⟩
  rw [g8]
  have hj':j < vals.length:=by omega
  exact (hcl j vals[j] (by simp [hj'])).2.2
 ·rw [List.getElem?_append_right (by omega),List.getElem?_drop] at hj
  have e:nv.length+(j - nv.length)=j:=by omega
  rw [e] at hj
  obtain ⟨c1,c2,c3⟩:=hcl j u hj
  exact ⟨by rw [g7 j (.inr (by omega))];exact c1,c2,by rw [g8];exact c3⟩
end
open Go.RowKit
theorem XhJ (n:Nat):AV.cells (.x (v4 n))=w4 n:=rfl
theorem Xnd (n:Nat):(w4 n).all AV.one=true:=rfl
theorem XlM {P:Program} {o:Oper} {ρ:Operand→AV} {H:List Hp} (t u:TypeId) (x y:Operand) (m:Nat) (ho:o.op=.binOp .and t x y u) (hx:ρ x=.x (.int .u64 m)) (hy:ρ y=.x (.int .u64 1)) (hm:m < 18446744073709551616):XeR P o ρ H (.x (.int .u64 (m &&& 1:Nat))):=
 XgQ .and t u x y m 1 _ ho hx hy hm (by decide) rfl
theorem XeX (n c:Nat) (hc:c < 256):XaM Tryz.prog 58 [] [.x (v4 n),.x (.int .u8 c)] (fun r H'=>r=.x (.bool (n.testBit c))∧H'=[]):=by
 refine Xbs Tryz.func58 Tryz.ntmps58 ?_
 (have wx:=And.intro @XhJ (And.intro @Xnd (And.intro @Xsj (And.intro @Nat.mul_one @Nat.zero_add)));(repeat' (first|refine Wkx.go ?_|refine XaJ ?_|refine XaG ?_|(refine XaE (fun h=>?_) (fun h=>?_)<;>first|(exact absurd h (by decide))|(exfalso;omega;done)|skip)|refine XaF ?_|refine Xai ?_ (h:=by first|exact fun _=>Xc5 (XlM _ _ _ _ _ rfl rfl rfl (by first|omega|exact XcI _ _|exact Xcy (by omega)|exact Xcz _ (XcI _ _)|assumption|(simp;done)))|fail)|refine Xn3 ?_|refine Xai ?_|(refine Xaa rfl ?_;(first|refine Xax ?_|refine Xaw ?_|refine Xav (fun ad cap=>?_)|refine Xat (fun b=>?_)|refine Xas (fun b=>?_)|refine Xau (fun b=>?_)|fail))|fail)))<;>(try clear wx)
 refine Xab _ _ (Xa0 rfl (RV.tmp _) (XcJ (D:=[_]) (R:=[]))) ?_
 refine ⟨?_,rfl⟩
 have hm:=XtW n c hc
 refine congrArg (fun q=>AV.x (.bool q)) ?_
 rw [Nat.and_one_is_mod] at hm
 cases ht:n.testBit c with
 | false=>rw [ht] at hm;simp only [Bool.false_eq_true,if_false] at hm;simp;omega
 | true=>rw [ht] at hm;simp only [if_true] at hm;simp;omega
theorem Xo6 (n:Nat):Xe8 n=(List.range' 0 256).find? fun c=>c≠10 && n.testBit c:=by
 unfold Xe8;rw [List.range_eq_range']
def XuL:Option Nat→Int
 | none => -1
 | some c=>c
theorem XrI (n:Nat):XaM Tryz.prog 59 [] [.x (v4 n)] (fun r H'=>r=.x (.int .i64 (XuL (Xe8 n)))∧H'=[]):=by
 rw [Xo6]
 generalize hR0:((List.range' 0 256).find? fun c=>c≠10 && n.testBit c)=R
 have hR0:=Lib.hid hR0
 refine Xbs Tryz.func59 Tryz.ntmps59 ?_
 (have wx:=And.intro @XhJ @Xnd;(repeat' (first|refine Wkx.go ?_|refine XaJ ?_|refine XaG ?_|(refine XaE (fun h=>?_) (fun h=>?_)<;>first|(exact absurd h (by decide))|(exfalso;omega;done)|skip)|refine XaF ?_|refine Xai ?_|(refine Xaa rfl ?_;(first|refine Xax ?_|refine Xaw ?_|refine Xav (fun ad cap=>?_)|refine Xat (fun b=>?_)|refine Xas (fun b=>?_)|refine Xau (fun b=>?_)|fail))|fail)))<;>(try clear wx)
 refine XaA (S:=Nat) (fun k=>frm 17 [(1,.x (.pointer (some ⟨b,0,none⟩))),(2,.x (.int .i64 0)),(4,.x (.int .i64 (k:Nat)))]) (fun k=>[.box b (w4 n)]) (fun k=>k≤256∧((List.range' k (256 - k)).find? fun c=>c≠10 && n.testBit c)=R) (fun k=>256 - k) 0 (XbQ (D:=[])) ⟨by omega,hR0.out⟩ fun k hk=>?_
 clear hR0
 obtain ⟨hk,hR⟩:=hk
 simp only [wfr]
 by_cases hlt:k < 256
 ·rw [show 256 - k=(256 - (k+1))+1 by omega,List.range'_succ,List.find?_cons] at hR
  have hR:=Lib.hid hR
  (have wx:=@w4r;(repeat' (first|refine Wkx.go ?_|refine XaJ ?_|refine XaG ?_|(refine XaE (fun h=>?_) (fun h=>?_)<;>first|(exact absurd h (by decide))|(exfalso;omega;done)|skip)|refine XaF ?_|refine Xai ?_ (h:=by first|exact fun _=>Xb3 rfl rfl Tryz.func58 (XeX n k hlt)|fail)|refine Xai ?_ (h:=by first|(intro hp;(try simp only [wgp] at hp);(try simp only [hp,wte]);(try simp only [whn] at hp);exact Xb3 rfl rfl Tryz.func58 (XeX n k hlt))|fail)|refine Xai ?_|(refine Xaa rfl ?_;(first|refine Xax ?_|refine Xaw ?_|refine Xav (fun ad cap=>?_)|refine Xat (fun b=>?_)|refine Xas (fun b=>?_)|refine Xau (fun b=>?_)|fail))|fail)))<;>(try clear wx)
  ·have hR:=hR.out
   rw [show (decide (k≠10) && n.testBit k)=true from by rw [h.2,Bool.and_true,decide_eq_true_eq];omega] at hR
   subst hR
   refine Xab _ _ (Xa0 rfl (RV.tmp _) (XcJ (D:=[_]) (R:=[]))) ?_
   exact ⟨rfl,rfl⟩
  ·have hR:=hR.out
   rw [show (decide (k≠10) && n.testBit k)=false from by rcases h with h|h;(have:k=10:=by omega);(subst this;rfl);rw [h,Bool.and_false]] at hR
   exact ⟨k+1,by omega,⟨by omega,hR⟩,(XbQ (D:=[]))⟩
 ·obtain rfl:k=256:=by omega
  have hR:none=R:=hR
  subst hR
  (repeat' (first|refine Wkx.go ?_|refine XaJ ?_|refine XaG ?_|(refine XaE (fun h=>?_) (fun h=>?_)<;>first|(exact absurd h (by decide))|(exfalso;omega;done)|skip)|refine XaF ?_|refine Xai ?_|(refine Xaa rfl ?_;(first|refine Xax ?_|refine Xaw ?_|refine Xav (fun ad cap=>?_)|refine Xat (fun b=>?_)|refine Xas (fun b=>?_)|refine Xau (fun b=>?_)|fail))|fail))
  refine Xab _ _ (Xa0 rfl (RV.tmp _) (XcJ (D:=[_]) (R:=[]))) ?_
  exact ⟨rfl,rfl⟩
def XoL (k:Nat):Int:=match Xc1 k with
 | none => -1
 | some c=>c
theorem Xti (k:Nat):XaM Tryz.prog 52 [] [.x (.int .i64 k)] (fun r H'=>r=.x (.int .i64 (XoL k))∧H'=[]):=by
 unfold XoL Xc1
 refine Xbs Tryz.func52 Tryz.ntmps52 ?_
 (repeat' (first|refine Wkx.go ?_|refine XaJ ?_|refine XaG ?_|(refine XaE (fun h=>?_) (fun h=>?_)<;>first|(exact absurd h (by decide))|(exfalso;omega;done)|skip)|refine XaF ?_|refine Xai ?_|(refine Xaa rfl ?_;(first|refine Xax ?_|refine Xaw ?_|refine Xav (fun ad cap=>?_)|refine Xat (fun b=>?_)|refine Xas (fun b=>?_)|refine Xau (fun b=>?_)|fail))|fail))
 all_goals
  refine Xab _ _ (Xa0 rfl (RV.tmp _) (XcJ (D:=[]))) ?_
  refine ⟨?_,rfl⟩
  (repeat' split)<;>first|rfl|(exfalso;omega)|(exfalso;simp_all;done)|(rename_i h9;(repeat' split at h9)<;>first|(simp at h9;subst h9;rfl)|(cases h9;rfl)|(exfalso;omega)|(exfalso;simp_all;done))
end Go.Proofs.YtdlblokjfoggpaaGreatDoor
