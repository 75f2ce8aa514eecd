import Derived.Test.YtdlblokjfoggpaaGreatDoorW10
import Derived.Test.YtdlblokjfoggpaaGreatDoorW6
import Derived.Test.YtdlblokjfoggpaaGreatDoorW7
import Derived.Test.YtdlblokjfoggpaaGreatDoorW19
import Derived.Test.YtdlblokjfoggpaaGreatDoorW18
import Derived.Test.YtdlblokjfoggpaaGreatDoorW14
import Derived.Test.YtdlblokjfoggpaaGreatDoorW17
import Derived.Test.YtdlblokjfoggpaaGreatDoorW15
import Derived.Test.YtdlblokjfoggpaaGreatDoorW20
import Derived.Test.YtdlblokjfoggpaaGreatDoorW0
import Derived.Test.YtdlblokjfoggpaaGreatDoorW12
import Derived.Test.YtdlblokjfoggpaaGreatDoorW22
/- The sentinels of package check in walks: what their variables hold; calls that leave all as it is. -/
set_option linter.unusedSimpArgs false
set_option linter.unusedVariables false
set_option maxRecDepth 100000
set_option maxHeartbeats 8000000
namespace Go.Proofs.YtdlblokjfoggpaaGreatDoor
open Go.RowKit
class XwL (H:List Hp) (p:outParam Nat) (ad:outParam (Nat→Addr)):Prop where out:H[p]?=some (.sen ad)
instance {x:Hp} {H:List Hp} {p:Nat} {ad:Nat→Addr} [h:XwL H p ad]:XwL (x :: H) (p+1) ad:=⟨by simpa using h.out⟩
instance {H:List Hp} {ad:Nat→Addr}:XwL (.sen ad :: H) 0 ad:=⟨rfl⟩
class XrJ (g:Nat) (i:outParam Nat):Prop where out:Xrk[i]?=some g
instance:XrJ 0 0:=⟨rfl⟩
instance:XrJ 2 1:=⟨rfl⟩
instance:XrJ 3 2:=⟨rfl⟩
instance:XrJ 4 3:=⟨rfl⟩
instance:XrJ 5 4:=⟨rfl⟩
instance:XrJ 6 5:=⟨rfl⟩
instance:XrJ 1 6:=⟨rfl⟩
section
variable {P:Program} {H:List Hp} {o:Oper} {ρ:Operand→AV}
theorem Xha {t:TypeId} {x:Operand} {g i p:Nat} {ad:Nat→Addr} (ho:o.op=.load t x:=by first|rfl|fail) (hx:ρ x=.x (.pointer (some ⟨g,0,none⟩)):=by first|rfl|fail) (hp:H[p]?=some (.sen ad):=by first|exact XwL.out|fail) (hi:Xrk[i]?=some g:=by first|exact XrJ.out|fail) (ht:Xis P t=some (false,1):=by first|exact XaI.out|fail):Evl P o ρ H (.x (Xh4 ad i)):=by
 intro V a w Kc Q r hKc
 obtain ⟨hs,-⟩:=r.hp p _ hp
 have hc:=hs.sens i g hi
 obtain ⟨v,hr,hdv⟩:=Xca (P:=P) t false 1 ht w (FB V H) g 0 [.x (Xh4 ad i)] [Xh4 ad i] (DenL.exact (l:=[Xh4 ad i])) (by simp) (fun _=>by simp)
 have hrun:=hr w fun j u hj=>by
  cases j with
  | zero=>simp only [List.getElem?_cons_zero,Option.some.injEq] at hj;subst hj;simpa using hc
  | succ j=>simp at hj
 have hv:v=Xh4 ad i:=by
  have:ldA false 1 [AV.x (Xh4 ad i)]=.x (Xh4 ad i):=rfl
  rw [this,Den] at hdv
  exact hdv
 subst hv
 unfold Oper.wp
 have:(execOp a.eval o).run P w=.ok (.value (Xh4 ad i)) w:=by
  simp [execOp,ho,r.evx (x:=x) (by simp [ho,Op.operands]) hx,Instr.loadAt,Instr.sureAddr,hrun]
 rw [this]
 exact hKc _ _ (Below.refl _ _) (by rw [Den])
theorem Xm6 {f:FuncId} {args:List Value} {res:Value}
  (h:∀w,(∀b (cells:List Value),Hp.box b (cells.map .x)∈H→∀j u,cells[j]?=some u→w.cell? ⟨b,j,none⟩=some u)→(∀ad,Hp.sen ad∈H→XgV ad w)→Calls P f args.toArray w fun e w'=>e=.returned res∧w'=w) :
  Xay P f H (args.map .x) fun r H'=>r=.x res∧H'=H:=by
 intro V w vs hV hH hd hgl
 rw [hd.exact']
 refine (h w (fun b cells hm j u hj=>?_) (fun ad hm=>(hH.ok _ hm).1)).mono ?_
 ·obtain ⟨vals,hd,hl,hc⟩:=hH.ok _ hm
  rw [hd.exact'] at hc
  exact (hc j u hj).1
 ·rintro e w' ⟨rfl,rfl⟩
  exact ⟨.x res,_,res,⟨rfl,rfl⟩,rfl,XnM _,hH,Fr.refl _ _,fun x hx k hk=>.inl ⟨x,hx,hk⟩⟩
end
def XwU (ad:Nat→Addr):Option Nat→Value
 | none=>.nilIface
 | some i=>Xh4 ad i
def XeD (ad:Nat→Addr):Prop:=∀i j,i < 7→j < 7→ad i=ad j→i=j
open Go.RowKit
def Xlg (s:List UInt8):Option Nat:=
 match XbG s with
 | .error _=>some 4
 | .ok l=>if XbW l=false then some 4 else if (Xbk (XbU l)).isNone then some 5 else none
theorem XmI {s:List UInt8} {c:Nat} (h:XbG s=.error c):c≠0:=by
 unfold XbG at h
 split at h
 ·cases h;decide
 simp only at h
 split at h
 ·cases h;assumption
 split at h
 ·cases h;decide
 split at h
 ·cases h;decide
 ·cases h
theorem XoM {s:List UInt8} {l:List Nd} (h:XbG s=.ok l):l.length≤256:=by
 unfold XbG at h
 split at h
 ·cases h
 simp only at h
 split at h
 ·cases h
 split at h
 ·cases h
 split at h
 ·cases h
 ·cases h;omega
theorem XkV {l:List Nd} (hv:XbW l=true):(XbU l).length≤600:=by
 obtain ⟨hl,h0,ht⟩:=Xd7 hv
 have:=Xbm ht l.length ([]++[⟨2,0,0,0⟩]++[⟨5,0,0,0⟩]) ([]++[(⟨2,0,0,0⟩:Sx)]).length (by omega) (by decide)
 rw [Xi2,List.length_set]
 simp only [Xyy,XyA,Xyr,Xyu] at this ⊢
 omega
theorem Xth (ad:Nat→Addr) (s:List UInt8) (hs:s.length≤100000000):Xay Tryz.prog 80 [.sen ad] [.x (.string (bs s))] (fun r H'=>r=.x (XwU ad (Xlg s))∧H'=[.sen ad]):=by
 have hP:=Xui s hs
 unfold Xlg
 unfold Xuv at hP
 cases h1:XbG s with
 | error c=>
   have hc:=XmI h1
   rw [h1] at hP
   simp only at hP ⊢
   have hP:=Lib.hid hP
   refine XaV Tryz.func80 Tryz.ntmps80 ?_
   (repeat' (first|refine Wkx.go ?_|(refine Xaz (fun h=>?_) (fun h=>?_)<;>first|(exfalso;omega;done)|skip)|refine Xad ?_ (h:=by exact fun _=>Xbb rfl rfl Tryz.func112 (hP.out))|refine Xad ?_ (h:=by exact fun _=>Xha)|refine Xad ?_|fail))
   refine Xaa _ _ (XaF rfl (RV.tmp _) (XcS (D:=[]))) ?_
   exact ⟨rfl,rfl⟩
 | ok l=>
   rw [h1] at hP
   simp only at hP ⊢
   have hP:=Lib.hid hP
   have hl:=XoM h1
   have hC:=XiG l hl
   unfold Xqm at hC
   cases hv:XbW l with
   | false=>
     rw [hv] at hC
     rw [if_pos rfl]
     rw [if_neg (by decide)] at hC
     have hC:=Lib.hid hC
     refine XaV Tryz.func80 Tryz.ntmps80 ?_
     (repeat' (first|refine Wkx.go ?_|(refine Xaz (fun h=>?_) (fun h=>?_)<;>first|(exact absurd h (by decide))|skip)|refine Xad ?_ (h:=by exact fun _=>Xbb rfl rfl Tryz.func112 (hP.out))|refine Xad ?_ (h:=by exact fun _=>Xbb rfl rfl Tryz.func8 (hC.out))|refine Xad ?_ (h:=by exact fun _=>Xha)|refine Xad ?_|fail))
     refine Xaa _ _ (XaF rfl (RV.tmp _) (XcS (D:=[]))) ?_
     exact ⟨rfl,rfl⟩
   | true=>
     rw [hv] at hC
     rw [if_neg (by decide)]
     rw [if_pos rfl] at hC
     have hC:=Lib.hid hC
     have hcl:=XkV hv
     have hS:=Xlp (XbU l) (by omega)
     cases hn:Xbk (XbU l) with
     | none=>
       rw [hn] at hS
       simp only [Option.isNone,if_true]
       unfold Xh3 at hS
       simp only at hS
       have hS:=Lib.hid hS
       refine XaV Tryz.func80 Tryz.ntmps80 ?_
       (repeat' (first|refine Wkx.go ?_|(refine Xaz (fun h=>?_) (fun h=>?_)<;>first|(exact absurd h (by decide))|skip)|refine Xad ?_ (h:=by exact fun _=>Xbb rfl rfl Tryz.func112 (hP.out))|refine Xad ?_ (h:=by exact fun _=>Xbb rfl rfl Tryz.func8 (hC.out))|refine Xad ?_ (h:=by exact fun _=>Xbb rfl rfl Tryz.func9 (hS.out))|refine Xad ?_ (h:=by exact fun _=>Xha)|refine Xad ?_|fail))
       refine Xaa _ _ (XaF rfl (RV.tmp _) (XcS (D:=[]))) ?_
       exact ⟨rfl,rfl⟩
     | some t=>
       rw [hn] at hS
       simp only [Option.isNone,Bool.false_eq_true,if_false]
       unfold Xh3 at hS
       simp only at hS
       have hS:=Lib.hid hS
       refine XaV Tryz.func80 Tryz.ntmps80 ?_
       (repeat' (first|refine Wkx.go ?_|(refine Xaz (fun h=>?_) (fun h=>?_)<;>first|(exact absurd h (by decide))|skip)|refine Xad ?_ (h:=by exact fun _=>Xbb rfl rfl Tryz.func112 (hP.out))|refine Xad ?_ (h:=by exact fun _=>Xbb rfl rfl Tryz.func8 (hC.out))|refine Xad ?_ (h:=by exact fun _=>Xbb rfl rfl Tryz.func9 (hS.out))|refine Xad ?_|fail))
       refine Xaa _ _ (XaF rfl (RV.tmp _) (XcS (D:=[]))) ?_
       exact ⟨rfl,rfl⟩
theorem XtE (l:List (List UInt8)) (H:List Hp) (g:Nat) (fn:Func) (cs:Array Value) (p:List UInt8→Bool) (hl:l.length≤140737488355328) (hf:Tryz.prog.funcs[g]?=some fn) (hnn:fn.name≠ "runtime.NumGoroutine") (hb:fn.body.isSome=true)
  (hp:∀j∈l,Xay Tryz.prog g H (.x (.string (bs j)) :: cs.toList.map .x) (fun r H'=>r=.x (.bool (p j))∧H'=H)) :
  Xay Tryz.prog 108 H [.sq l.length (sa l),.x (.func (.func g) #[] cs)] (fun r H'=>r=.x (.int .i64 (fiv (l.findIdx? p)))∧H'=H):=by
 have hp:=Lib.hid hp
 refine XaV Tryz.func108 Tryz.ntmps108 ?_
 (repeat' (first|refine Wkx.go ?_|refine Xad ?_|fail))
 refine Xah (S:=Nat) (fun k=>frm 19 [(0,.sq l.length (sa l)),(1,.x (.func (.func g) #[] cs)),(7,.x (.int .i64 l.length)),(8,.x (.int .i64 k))]) (fun _=>H) (fun k=>k≤l.length∧∀j∈l.take k,p j=false) (fun k=>l.length - k) 0 (XaX (D:=[])) ⟨Nat.zero_le _,by simp⟩ fun k hk=>?_
 simp only [wfr]
 obtain ⟨hk,hn⟩:=hk
 have hn:=Lib.hid hn
 (have wx:=@Xh2;(repeat' (first|refine Wkx.go ?_|(refine Xaz (fun h=>?_) (fun h=>?_)<;>skip)|refine Xad ?_|(refine Xab rfl ?_;((refine Xau g fn H [] _ _ rfl rfl hf hnn hb (by simp) (VwL.refl _ _) (hp.out l[k] (List.getElem_mem h)) ?_;rintro _ _ ⟨rfl,rfl⟩);refine XaJ ?_))|fail)))<;>(try clear wx)
 ·refine Xaa _ _ (XaF rfl (RV.tmp _) (XcS (D:=[]))) ?_
  exact ⟨by rw [Xes p (by assumption) hn.out h];rfl,rfl⟩
 ·exact ⟨k+1,by omega,⟨by omega,by rw [XbA l k (by assumption)];intro j hj;simp only [List.mem_append,List.mem_singleton] at hj;rcases hj with hj|rfl;exact hn.out j hj;exact h⟩,(XaX (D:=[]))⟩
 ·refine Xaa _ _ (XaF rfl (RV.tmp _) (XcS (D:=[]))) ?_
  have hn:=hn.out
  rw [List.take_of_length_le (by omega)] at hn
  exact ⟨by rw [Xer p hn];rfl,rfl⟩
theorem Xqt {α:Type} (l:List α) (p:α→Bool):decide ((0:Int)≤fiv (l.findIdx? p))=l.any p:=by
 rw [Bool.eq_iff_iff,decide_eq_true_iff,List.any_eq_true]
 rcases h:l.findIdx? p with _|k
 ·rw [List.findIdx?_eq_none_iff] at h
  constructor
  ·intro q;simp [fiv] at q
  ·rintro ⟨x,hx,q⟩;rw [h x hx] at q;cases q
 ·rw [List.findIdx?_eq_some_iff_getElem] at h
  obtain ⟨hk,h,-⟩:=h
  exact ⟨fun _=>⟨_,List.getElem_mem hk,h⟩,fun _=>Int.natCast_nonneg k⟩
theorem Xtg (l:List (List UInt8)) (H:List Hp) (g:Nat) (fn:Func) (cs:Array Value) (p:List UInt8→Bool) (hl:l.length≤140737488355328) (hf:Tryz.prog.funcs[g]?=some fn) (hnn:fn.name≠ "runtime.NumGoroutine") (hb:fn.body.isSome=true)
  (hp:∀j∈l,Xay Tryz.prog g H (.x (.string (bs j)) :: cs.toList.map .x) (fun r H'=>r=.x (.bool (p j))∧H'=H)) :
  Xay Tryz.prog 77 H [.sq l.length (sa l),.x (.func (.func g) #[] cs)] (fun r H'=>r=.x (.bool (l.any p))∧H'=H):=by
 have h1:=Lib.hid (XtE l H g fn cs p hl hf hnn hb hp)
 rw [←Xqt]
 generalize fiv (l.findIdx? p)=k at *
 refine XaV Tryz.func77 Tryz.ntmps77 ?_
 (repeat' (first|refine Wkx.go ?_|refine Xad ?_|(refine Xab rfl ?_;((refine Xa7 Tryz.func108 H (R:=[]) rfl rfl (by simp) h1.out ?_;rintro _ _ ⟨rfl,rfl⟩);refine XaJ ?_))|fail))
 refine Xaa _ _ (XaF rfl (RV.tmp _) (XcS (D:=[]))) ?_
 exact ⟨rfl,by simp⟩
def ra (l:List (Int × Int)):List AV:=l.flatMap fun s=>[.x (.int .i64 s.1),.x (.int .u64 s.2)]
@[simp] theorem Xx4 (l:List (Int × Int)):(ra l).length=l.length*2:=by
 induction l with
 | nil=>rfl
 | cons j l ih=>simp only [ra,List.flatMap_cons,XyA,Xyr] at ih ⊢;rw [ih];simp;omega
theorem Xwb (l m:List (Int × Int)):ra (l++m)=ra l++ra m:=by simp [ra]
def ea (l:List (List UInt8 × List UInt8)):List AV:=l.flatMap fun s=>[.x (.string (bs s.1)),.x (.string (bs s.2))]
@[simp] theorem Xx0 (l:List (List UInt8 × List UInt8)):(ea l).length=l.length*2:=by
 induction l with
 | nil=>rfl
 | cons j l ih=>simp only [ea,List.flatMap_cons,XyA,Xyr] at ih ⊢;rw [ih];simp;omega
theorem Xvs (l m:List (List UInt8 × List UInt8)):ea (l++m)=ea l++ea m:=by simp [ea]
structure JF where
 name:List UInt8
 run:List UInt8
 env:List (List UInt8 × List UInt8)
 needs:List (List UInt8)
 hasr:Bool
 ready:List UInt8
 restart:Int
 base:Int
 cap:Int
 stable:Int
 burst:Int
 window:Int
 ladder:List (Int × Int)
 line:Int
 col:Int
def JF.cells (j:JF):List AV:=[.x (.string (bs j.name)),.x (.string (bs j.run)),.sq j.env.length (ea j.env),.sq j.needs.length (sa j.needs),.x (.bool j.hasr),.x (.string (bs j.ready)),.x (.int .i64 j.restart),.x (.int .u64 j.base),.x (.int .u64 j.cap),.x (.int .u64 j.stable),.x (.int .i64 j.burst),.x (.int .u64 j.window),.sq j.ladder.length (ra j.ladder),.x (.int .i64 j.line),.x (.int .i64 j.col)]
def U64 (v:Int):Prop:=0≤v∧v≤18446744073709551615
structure Xu1 (j:JF):Prop where
 name:j.name.length≤8
 run:j.run.length≤16
 env:j.env.length≤2
 enve:∀p∈j.env,p.1.length≤8∧p.2.length≤8
 needs:j.needs.length≤4
 neede:∀s∈j.needs,s.length≤8
 ready:j.ready.length≤16
 ladder:j.ladder.length≤4
 laddere:∀p∈j.ladder,U64 p.2
 base:U64 j.base
 cap:U64 j.cap
 stable:U64 j.stable
 window:U64 j.window
 burst : -9223372036854775808≤j.burst∧j.burst≤9223372036854775807
theorem XjT (l:List (List UInt8 × List UInt8)) (k:Nat) (h:k < l.length):(ea l).drop (k*2)=.x (.string (bs l[k].1)) :: .x (.string (bs l[k].2)) :: ea (l.drop (k+1)):=by
 induction l generalizing k with
 | nil=>simp at h
 | cons j l ih=>
   cases k with
   | zero=>simp [ea]
   | succ k=>
     simp only [ea,List.flatMap_cons,List.drop_succ_cons,List.getElem_cons_succ] at ih ⊢
     rw [show (k+1)*2=2+k*2 from by omega,←List.drop_drop]
     exact ih k (by simpa using h)
theorem Xup (l:List (Int × Int)) (k:Nat) (h:k < l.length):(ra l).drop (k*2)=.x (.int .i64 l[k].1) :: .x (.int .u64 l[k].2) :: ra (l.drop (k+1)):=by
 induction l generalizing k with
 | nil=>simp at h
 | cons j l ih=>
   cases k with
   | zero=>simp [ra]
   | succ k=>
     simp only [ra,List.flatMap_cons,List.drop_succ_cons,List.getElem_cons_succ] at ih ⊢
     rw [show (k+1)*2=2+k*2 from by omega,←List.drop_drop]
     exact ih k (by simpa using h)
def jfa (l:List JF):List AV:=l.flatMap JF.cells
@[simp] theorem Xxn (l:List JF):(jfa l).length=l.length*15:=by
 induction l with
 | nil=>rfl
 | cons j l ih=>simp only [jfa,List.flatMap_cons,XyA,Xyr] at ih ⊢;rw [ih];simp [JF.cells];omega
theorem XhO (l:List JF) (k:Nat) (h:k < l.length):(jfa l).drop (k*15)=l[k].cells++jfa (l.drop (k+1)):=by
 induction l generalizing k with
 | nil=>simp at h
 | cons j l ih=>
   cases k with
   | zero=>simp [jfa]
   | succ k=>
     simp only [jfa,List.flatMap_cons,List.drop_succ_cons,List.getElem_cons_succ] at ih ⊢
     rw [show (k+1)*15=j.cells.length+k*15 from by simp [JF.cells];omega,←List.drop_drop,List.drop_append_length]
     exact ih k (by simpa using h)
theorem XvQ (j:JF):∀i,(j.cells.getD i (.x (.bool false))).one=true
 | 0|1|2|3|4|5|6|7|8|9|10|11|12|13|14=>rfl
 | _+15=>rfl
def JF.toJA (j:JF):JA:=⟨j.name,j.needs,fun i=>j.cells.getD i (.x (.bool false)),XvQ j⟩
theorem Xr7 (l:List JF):jfa l=ja (l.map JF.toJA):=by
 induction l with
 | nil=>rfl
 | cons j l ih=>
   have e1:jfa (j :: l)=j.cells++jfa l:=rfl
   have e2:ja ((j :: l).map JF.toJA)=j.toJA.cells++ja (l.map JF.toJA):=rfl
   rw [e1,e2,ih]
   rfl
def XmZ (l:List JF) (s:List UInt8):Int:=idx (l.map JF.toJA) s
theorem Xod (l:List JF) (s:List UInt8) (hl:l.length≤1000000):Xay Tryz.prog 14 [] [.sq l.length (jfa l),.x (.string (bs s))] (fun r H'=>r=.x (.int .i64 (XmZ l s))∧H'=[]):=by
 have h:=Xfk (l.map JF.toJA) s (by simpa using hl)
 rw [←Xr7,List.length_map] at h
 exact h
def Xpd (k:Int):Bool:=decide (k=1∨k=2∨k=3∨k=10∨k=12∨k=15)
theorem XtF (k:Int):Xay Tryz.prog 111 [] [.x (.int .i64 k)] (fun r H'=>r=.x (.bool (Xpd k))∧H'=[]):=by
 refine XaV Tryz.func111 Tryz.ntmps111 ?_
 (repeat' (first|refine Wkx.go ?_|(refine Xaz (fun h=>?_) (fun h=>?_)<;>first|(exfalso;omega;done)|skip)|refine Xad ?_|fail))
 all_goals
  refine Xaa _ _ (XaF rfl (RV.tmp _) (Xaj.mk' [] [] (Xyo _) Xak.nil (VwL.refl _ _))) ⟨?_,rfl⟩
  refine congrArg (fun q=>AV.x (.bool q)) ?_
  unfold Xpd
  first|exact (decide_eq_true (by omega)).symm|exact (decide_eq_false (by omega)).symm|fail
theorem Xmu (a b:Int):Xay Tryz.prog 110 [] [.x (.agg #[.int .i64 a,.int .u64 b])] (fun r H'=>r=.x (.bool (!Xpd a))∧H'=[]):=by
 have h1:=XtF a
 refine XaV Tryz.func110 Tryz.ntmps110 ?_
 (repeat' (first|refine Wkx.go ?_|refine Xad ?_ (h:=by exact fun _=>XdD rfl rfl Tryz.func111 (hS:=h1))|refine Xad ?_|(refine Xab rfl ?_;(refine Xd9 (fun b=>?_)))|fail))
 refine Xaa _ _ (XaF rfl (RV.tmp _) (Xaj.mk' [_] [] (Xyo _) Xak.nil (VwL.refl _ _))) ⟨rfl,rfl⟩
theorem Xob (l:List (Int × Int)) (hl:l.length≤1000000):Xay Tryz.prog 130 [] [.sq l.length (ra l),.x (.func (.func 110) #[] #[])] (fun r H'=>r=.x (.int .i64 (fiv (l.findIdx? fun x=>!Xpd x.1)))∧H'=[]):=by
 have h1:=Lib.hid Xmu
 refine XaV Tryz.func130 Tryz.ntmps130 ?_
 (repeat' (first|refine Wkx.go ?_|refine Xad ?_|fail))
 refine Xah (S:=Nat) (fun k=>frm 19 [(0,.sq l.length (ra l)),(1,.x (.func (.func 110) #[] #[])),(7,.x (.int .i64 l.length)),(8,.x (.int .i64 k))]) (fun _=>[]) (fun k=>k≤l.length∧∀j∈l.take k,(!Xpd j.1)=false) (fun k=>l.length - k) 0 (XaX (D:=[])) ⟨Nat.zero_le _,by simp⟩ fun k hk=>?_
 simp only [wfr]
 obtain ⟨hk,hn⟩:=hk
 have hn:=Lib.hid hn
 (have wx:=@Xup;(repeat' (first|refine Wkx.go ?_|(refine Xaz (fun h=>?_) (fun h=>?_)<;>skip)|refine Xad ?_ (h:=by exact fun _=>XdD rfl rfl Tryz.func110 (hS:=h1.out _ _))|refine Xad ?_|fail)))<;>(try clear wx)
 ·refine Xaa _ _ (XaF rfl (RV.tmp _) (XcS (D:=[]))) ?_
  exact ⟨by rw [Xes (fun x:Int × Int=>!Xpd x.1) (by assumption) hn.out (by simpa using h)];rfl,rfl⟩
 ·exact ⟨k+1,by omega,⟨by omega,by rw [XbA l k (by assumption)];intro j hj;simp only [List.mem_append,List.mem_singleton] at hj;rcases hj with hj|rfl;exact hn.out j hj;simpa using h⟩,(XaX (D:=[]))⟩
 ·refine Xaa _ _ (XaF rfl (RV.tmp _) (XcS (D:=[]))) ?_
  have hn:=hn.out
  rw [List.take_of_length_le (by omega)] at hn
  exact ⟨by rw [Xer (fun x:Int × Int=>!Xpd x.1) hn];rfl,rfl⟩
theorem XvE {α:Type} (l:List α) (p:α→Bool):decide ((0:Int)≤fiv (l.findIdx? p))=l.any p:=by
 rw [Bool.eq_iff_iff,decide_eq_true_iff,List.any_eq_true]
 rcases h:l.findIdx? p with _|k
 ·rw [List.findIdx?_eq_none_iff] at h
  constructor
  ·intro q;simp [fiv] at q
  ·rintro ⟨x,hx,q⟩;rw [h x hx] at q;cases q
 ·rw [List.findIdx?_eq_some_iff_getElem] at h
  obtain ⟨hk,h,-⟩:=h
  exact ⟨fun _=>⟨_,List.getElem_mem hk,h⟩,fun _=>Int.natCast_nonneg k⟩
theorem Xmt (l:List (Int × Int)) (hl:l.length≤1000000):Xay Tryz.prog 109 [] [.sq l.length (ra l),.x (.func (.func 110) #[] #[])] (fun r H'=>r=.x (.bool (l.any fun x=>!Xpd x.1))∧H'=[]):=by
 have h1:=Xob l hl
 rw [←XvE]
 generalize fiv (l.findIdx? fun x=>!Xpd x.1)=k at *
 refine XaV Tryz.func109 Tryz.ntmps109 ?_
 (repeat' (first|refine Wkx.go ?_|refine Xad ?_ (h:=by exact fun _=>XdD rfl rfl Tryz.func130 (hS:=h1))|refine Xad ?_|fail))
 refine Xaa _ _ (XaF rfl (RV.tmp _) (Xaj.mk' [] [] (Xyo _) Xak.nil (VwL.refl _ _))) ⟨rfl,rfl⟩
def inR (j:JF):Bool:=decide (j.base≤j.cap∧j.window≠0∧1≤j.burst∧j.burst≤16∧(j.restart=1∨j.restart=2∨j.restart=3)∧j.ladder.length≤5) && !(j.ladder.any fun x=>!Xpd x.1)
theorem Xoe (j:JF) (hl:j.ladder.length≤1000000):Xay Tryz.prog 79 [] [.agg j.cells] (fun r H'=>r=.x (.bool (inR j))∧H'=[]):=by
 have h1:=Lib.hid (Xmt j.ladder hl)
 unfold inR
 generalize (j.ladder.any fun x=>!Xpd x.1)=q at *
 refine XaV Tryz.func79 Tryz.ntmps79 ?_
 (have wx:=@JF.cells.eq_1;(repeat' (first|refine Wkx.go ?_|(refine Xaz (fun h=>?_) (fun h=>?_)<;>first|(exfalso;omega;done)|skip)|refine Xad ?_ (h:=by (intro hp;(try simp only [wgp] at hp);(try simp only [hp,wte]);(try simp only [whn] at hp);exact XdD rfl rfl Tryz.func109 (hS:=h1.out)))|refine Xad ?_|(refine Xab rfl ?_;(refine Xd9 (fun b=>?_)))|fail)))<;>(try clear wx)
 all_goals
  refine Xaa _ _ (XaF rfl (RV.tmp _) (Xaj.mk' [_] [] (Xyo _) Xak.nil (VwL.refl _ _))) ⟨?_,rfl⟩
  refine congrArg (fun q=>AV.x (.bool q)) ?_
  cases q<;>(rw [Bool.eq_iff_iff];simp<;>omega)
def Xr8 (l:List JF) (i:Nat) (j:JF):Option Nat:=
 if XmZ l j.name < i then some 1 else if j.needs.any (fun n=>decide (XmZ l n < 0)) then some 2 else if inR j=false then some 3 else if j.hasr then Xlg j.ready else none
theorem XvR (bb:Nat) (ad:Nat→Addr) (l:List JF) (s:List UInt8) (hl:l.length≤1000000):Xay Tryz.prog 78 [.box bb [.sq l.length (jfa l)],.sen ad] [.x (.string (bs s)),.x (.pointer (some ⟨bb,0,none⟩))] (fun r H'=>r=.x (.bool (decide (XmZ l s < 0)))∧H'=[.box bb [.sq l.length (jfa l)],.sen ad]):=by
 have h1:=Xod l s hl
 generalize XmZ l s=k at *
 refine XaV Tryz.func78 Tryz.ntmps78 ?_
 (repeat' (first|refine Wkx.go ?_|refine Xad ?_ (h:=by exact fun _=>Xbb rfl rfl Tryz.func14 (h1))|refine Xad ?_|fail))
 refine Xaa _ _ (XaF rfl (RV.tmp _) (XcS (D:=[]))) ?_
 exact ⟨rfl,rfl⟩
theorem Xxr (ad:Nat→Addr) (l:List JF) (i:Nat) (hi:i < l.length) (hl:l.length≤1000000) (hn:(l[i]).needs.length≤140737488355328) (hla:(l[i]).ladder.length≤1000000) (hr:(l[i]).ready.length≤100000000) :
  Xay Tryz.prog 41 [.sen ad] [.sq l.length (jfa l),.x (.int .i64 i)] (fun r H'=>r=.x (XwU ad (Xr8 l i l[i]))∧H'=[.sen ad]):=by
 have hd1:=XhO l i hi
 generalize l[i]=j at *
 have hI:=Xod l j.name hl
 have hR:=Xoe j hla
 have hP:=Xth ad j.ready hr
 unfold Xr8
 generalize hV:Xlg j.ready=pv at *
 generalize XmZ l j.name=k at *
 generalize inR j=iv at *
 have hC:=fun bb=>Xtg j.needs [.box bb [.sq l.length (jfa l)],.sen ad] 78 _ #[.pointer (some ⟨bb,0,none⟩)] (fun n=>decide (XmZ l n < 0)) hn Tryz.func78 (by decide) rfl (fun s _=>XvR bb ad l s hl)
 generalize (j.needs.any fun n=>decide (XmZ l n < 0))=nv at *
 have hd1:=Lib.hid hd1;have hP:=Lib.hid hP;have hC:=Lib.hid hC
 clear hV
 refine XaV Tryz.func41 Tryz.ntmps41 ?_
 (have wx:=And.intro @hd1.out @JF.cells.eq_1;(repeat' (first|refine Wkx.go ?_|(refine Xaz (fun h=>?_) (fun h=>?_)<;>skip)|refine Xad ?_ (h:=by exact fun _=>Xbb rfl rfl Tryz.func14 (hI))|refine Xad ?_ (h:=by exact fun _=>Xbb rfl rfl Tryz.func79 (hR))|refine Xad ?_ (h:=by exact fun _=>Xha)|refine Xad ?_|(refine Xab rfl ?_;(first|((refine Xa7 Tryz.func77 [_,_] rfl rfl (by (repeat' (first|exact Xyo _|refine XyE _ ?_|refine (XyB (l₁:=[_])).trans (XyE _ ?_)|fail))) (hC.out _) ?_;rintro _ _ ⟨rfl,rfl⟩);refine XaJ ?_)|((refine Xa7 Tryz.func80 [_] rfl rfl (by (repeat' (first|exact Xyo _|refine (XyB (l₁:=[_])).trans (XyE _ ?_)|fail))) hP.out ?_;rintro _ _ ⟨rfl,rfl⟩);refine XaJ ?_)|refine Xbh ?_|refine Xd9 (fun b=>?_)|refine Xb8 (fun b=>?_)))|fail)))<;>(try clear wx)
 all_goals
  refine Xaa _ _ (XaF rfl (RV.tmp _) (Xaj.mk' [.box _ _,.box _ _] [.sen ad] (by (repeat' (first|exact Xyo _|refine XyE _ ?_|refine (XyB (l₁:=[_])).trans (XyE _ ?_)|fail))) (Xak.refl _ _) (VwL.refl _ _))) ⟨?_,rfl⟩
  first
   | (rw [if_pos (by omega)];rfl)
   | (rw [if_neg (by omega),if_pos (by assumption)];rfl)
   | (rw [if_neg (by omega),if_neg (by simp only [‹nv=false›];decide),if_pos (by assumption)];rfl)
   | (rw [if_neg (by omega),if_neg (by simp only [‹nv=false›];decide),if_neg (by simp only [‹iv=true›];decide),if_pos (by assumption)];rfl)
   | (rw [if_neg (by omega),if_neg (by simp only [‹nv=false›];decide),if_neg (by simp only [‹iv=true›];decide),if_neg (by simp only [‹j.hasr=false›];decide)];rfl)
   | fail
theorem XxV (j:JF) (ty:TypeId) (a:Option Addr):Xay Tryz.prog 42 [] [.agg j.cells,.x (.iface ty (.pointer a))] (fun r H'=>∃b,r=.x (.iface 58 (.pointer (some ⟨b,0,none⟩)))∧H'=[.box b [.x (.int .i64 j.line),.x (.int .i64 j.col),.x (.iface ty (.pointer a))]]):=by
 refine XaV Tryz.func42 Tryz.ntmps42 ?_
 (have wx:=@JF.cells.eq_1;(repeat' (first|refine Wkx.go ?_|refine Xad ?_|(refine Xab rfl ?_;(refine Xd9 (fun b=>?_)))|fail)))<;>(try clear wx)
 refine Xaa _ _ (XaF rfl (RV.tmp _) (Xaj.mk' [.box _ (.x (.string _) :: _)] [.box _ [.x (.int _ _),_,_]] (by (repeat' (first|exact Xyo _|refine (XyB (l₁:=[_])).trans (XyE _ ?_)|fail))) (Xak.refl _ _) (VwL.refl _ _))) ⟨_,rfl,rfl⟩
def XdI (l:List JF):Nat→List JF→Option (Nat × JF)
 | _,[]=>none
 | i,j :: t=>match Xr8 l i j with
   | some e=>some (e,j)
   | none=>XdI l (i+1) t
def Xfl (l:List JF):Option (Nat × JF)→Option (Nat × JF)
 | some x=>some x
 | none=>match cyc (l.map JF.toJA) with
   | []=>none
   | c :: _=>(l[c.toNat]?).map fun j=>(6,j)
def XhP (l:List JF):Option (Nat × JF):=Xfl l (XdI l 0 l)
structure XwM (j:JF):Prop where
 needs:j.needs.length≤8796093022208
 ladder:j.ladder.length≤1000000
 ready:j.ready.length≤100000000
def XsV (ad:Nat→Addr) (x:Option (Nat × JF)) (r:AV) (H':List Hp):Prop:=match x with
 | none=>r=.x .nilIface∧H'=[.sen ad]
 | some (i,j)=>∃b,r=.x (.iface 58 (.pointer (some ⟨b,0,none⟩)))∧H'=[.box b [.x (.int .i64 j.line),.x (.int .i64 j.col),.x (Xh4 ad i)],.sen ad]
theorem Xuj (s:List UInt8) (i:Nat) (h:Xlg s=some i):i < 7:=by
 unfold Xlg at h
 split at h
 ·cases h;decide
 split at h
 ·cases h;decide
 split at h
 ·cases h;decide
 ·cases h
theorem XtK {l:List JF} {i:Nat} {j:JF} {e:Nat} (h:Xr8 l i j=some e):e < 7:=by
 unfold Xr8 at h
 split at h
 ·cases h;decide
 split at h
 ·cases h;decide
 split at h
 ·cases h;decide
 split at h
 ·exact Xuj _ _ h
 ·cases h
theorem XvS (ad:Nat→Addr) (l:List JF) (hl:l.length≤32) (hj:∀j∈l,XwM j):Xay Tryz.prog 16 [.sen ad] [.sq l.length (jfa l)] (XsV ad (XhP l)):=by
 have hj:=Lib.hid hj
 generalize hR0:XdI l 0 l=R0
 have hE:XhP l=Xfl l R0:=by unfold XhP;rw [hR0]
 have hE:=Lib.hid hE
 have hR0:=Lib.hid hR0
 refine XaV Tryz.func16 Tryz.ntmps16 ?_
 (repeat' (first|refine Wkx.go ?_|(refine Xaz (fun h=>?_) (fun h=>?_)<;>first|(exfalso;omega;done)|skip)|refine Xad ?_|fail))
 refine Xah (S:=Nat) (fun s=>frm 40 [(0,.sq l.length (jfa l)),(11,.x (.int .i64 l.length)),(12,.x (.int .i64 s))]) (fun _=>[.sen ad]) (fun i=>i≤l.length∧XdI l i (l.drop i)=R0) (fun i=>l.length - i) 0 (XaX (D:=[])) ⟨Nat.zero_le _,by simpa using hR0.out⟩ fun i hi=>?_
 clear hR0
 obtain ⟨hi,hg⟩:=hi
 simp only [wfr]
 by_cases hlt:i < l.length
 ·rw [List.drop_eq_getElem_cons hlt,XdI] at hg
  have hok:=hj.out _ (List.getElem_mem hlt)
  have hb:=Xxr ad l i hlt (by omega) (by have:=hok.needs;omega) hok.ladder hok.ready
  have hd1:=Lib.hid (XhO l i hlt)
  cases he:Xr8 l i l[i] with
  | none=>
    rw [he] at hg hb
    simp only at hg
    have hb:=Lib.hid hb
    unfold XwU at hb
    have hg:=Lib.hid hg
    (repeat' (first|refine Wkx.go ?_|(refine Xaz (fun h=>?_) (fun h=>?_)<;>first|(exact absurd h (by decide))|(exfalso;omega;done)|skip)|refine Xad ?_|(refine Xab rfl ?_;((refine Xa7 Tryz.func41 [_] rfl rfl (Xyo _) hb.out ?_;rintro _ _ ⟨rfl,rfl⟩);refine XaJ ?_))|fail))
    exact ⟨i+1,by omega,⟨by omega,hg.out⟩,(XaX (D:=[]))⟩
  | some e=>
    rw [he] at hg hb
    simp only at hg
    subst hg
    have hE:=hE.out
    rw [hE]
    unfold Xfl
    simp only
    generalize l[i]=j at *
    unfold XwU Xh4 at hb
    have hb:=Lib.hid hb
    (have wx:=And.intro @hd1.out @JF.cells.eq_1;(repeat' (first|refine Wkx.go ?_|(refine Xaz (fun h=>?_) (fun h=>?_)<;>first|(exact absurd h (by decide))|(exfalso;omega;done)|skip)|refine Xad ?_|(refine Xab rfl ?_;(first|((refine Xa7 Tryz.func41 [_] rfl rfl (Xyo _) hb.out ?_;rintro _ _ ⟨rfl,rfl⟩);refine XaJ ?_)|((refine Xa7 Tryz.func42 [] rfl rfl (Xyo _) (XxV j Xux (some (ad e))) ?_;rintro _ _ ⟨b,rfl,rfl⟩);refine XaJ ?_)))|fail)))<;>(try clear wx)
    refine Xaa _ _ (XaF rfl (RV.tmp _) (Xaj.mk' [] [.box b _,.sen ad] (by (repeat' (first|exact Xyo _|fail))) (Xak.refl _ _) (VwL.refl _ _))) ⟨b,rfl,rfl⟩
 ·rw [List.drop_of_length_le (by omega),XdI] at hg
  subst hg
  rw [hE.out]
  unfold Xfl
  simp only
  have hC:=Xmk (l.map JF.toJA) (by simp;omega) (fun j h=>by obtain ⟨x,hx,rfl⟩:=List.mem_map.1 h;exact (hj.out x hx).needs)
  rw [←Xr7,List.length_map] at hC
  have hlt2:=Xvn (l.map JF.toJA)
  generalize cyc (l.map JF.toJA)=cy at *
  have hC:=Lib.hid hC
  match cy,hC,hlt2 with
  | [],hC,_=>
    (repeat' (first|refine Wkx.go ?_|(refine Xaz (fun h=>?_) (fun h=>?_)<;>first|(exact absurd h (by decide))|(exfalso;omega;done)|skip)|refine Xad ?_|(refine Xab rfl ?_;((refine Xa7 Tryz.func43 [] rfl rfl (Xyo _) hC.out ?_;rintro _ _ ⟨ad',cap',rfl,rfl⟩);refine XaJ ?_))|fail))
    refine Xaa _ _ (XaF rfl (RV.tmp _) (Xaj.mk' [.row _ _ _ _ _ _] [.sen ad] (by (repeat' (first|exact Xyo _|fail))) (Xak.refl _ _) (VwL.refl _ _))) ⟨rfl,rfl⟩
  | c :: t,hC,hlt2=>
    have hc:=hlt2 c (List.mem_cons_self ..)
    rw [List.length_map] at hc
    obtain ⟨k,rfl⟩:∃k:Nat,c=k:=⟨c.toNat,by omega⟩
    have hk:k < l.length:=by omega
    have hd1:=Lib.hid (XhO l k hk)
    simp only [Int.toNat_natCast,List.getElem?_eq_getElem hk,Option.map_some]
    generalize l[k]=j at *
    clear hlt2 hE
    have h6:Xh4 ad 6=.iface Xux (.pointer (some (ad 6))):=rfl
    have h6:=Lib.hid h6
    have hia:ia ((k:Int) :: t)=.x (.int .i64 (k:Nat)) :: ia t:=by simp [ia]
    have hia:=Lib.hid hia
    have hln:((k:Int) :: t).length=t.length+1:=rfl
    (have wx:=@hia.out;(repeat' (first|refine Wkx.go ?_|(refine Xaz (fun h=>?_) (fun h=>?_)<;>first|(exact absurd h (by decide))|(exfalso;omega;done)|skip)|refine Xad ?_|(refine Xab rfl ?_;((refine Xa7 Tryz.func43 [] rfl rfl (Xyo _) hC.out ?_;rintro _ _ ⟨ad',cap',rfl,rfl⟩);refine XaJ ?_))|fail)))<;>(try clear wx)
    refine Xcl 0 rfl fun _ _ hd=>?_
    rcases hd with ⟨_,h0,_⟩|⟨g,rfl⟩
    ·cases h0
    refine Xeq (B:=[_,_]) (R:=[]) mixed [0,1,2,3,4,5,6,7] [7] [8] none [] 1 (Xyo _) (by decide +kernel) rfl (fun i o h=>by cases h) (by decide) ?_
    (have wx:=And.intro @hia.out (And.intro @hd1.out (And.intro @JF.cells.eq_1 @h6.out));(repeat' (first|refine Xjh ?_ (h:=by ((intro hp;(try simp only [wgp] at hp);(try simp only [hp,wte]);(try simp only [whn] at hp));((try simp only [Xyz,Xyy]);exact Xha)))|refine Xjh ?_|(refine XxY ?_;((refine Xa7 Tryz.func42 [] rfl rfl (Xyo _) (XxV j Xux (some (ad 6))) ?_;rintro _ _ ⟨b,rfl,rfl⟩);refine ⟨_,rfl,?_⟩;refine Xxg ?_))|fail)))<;>(try clear wx)
    (first|refine XjQ ?_|fail);(refine Xd8 8 ?_;(first|refine Xd5 ?_|fail));refine Xao (by decide +kernel) ?_
    (repeat' (first|refine Wkx.go ?_|fail))
    refine Xaa _ _ (XaF rfl (RV.tmp _) (Xaj.mk' [.row _ _ _ _ _ _] [.box b _,.sen ad] (by (repeat' (first|exact Xyo _|refine XyE _ ?_|refine (XyB (l₁:=[_])).trans (XyE _ ?_)|fail))) (Xak.refl _ _) (VwL.refl _ _))) ⟨b,rfl,rfl⟩
end Go.Proofs.YtdlblokjfoggpaaGreatDoor
