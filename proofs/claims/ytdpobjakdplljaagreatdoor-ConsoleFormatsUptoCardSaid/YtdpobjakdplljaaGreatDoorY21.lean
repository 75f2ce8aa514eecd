import Derived.Test.YtdpobjakdplljaaGreatDoorY20
import Derived.Test.YtdpobjakdplljaaGreatDoorY15
/- The mill: at most four jobs. -/
set_option linter.unusedSimpArgs false
set_option linter.unusedVariables false
set_option maxRecDepth 100000
set_option maxHeartbeats 8000000
namespace Go.Proofs.YtdpobjakdplljaaGreatDoor
open Go.RowKit
def Xcp:List (List UInt8):=[[97],[98],[99],[100]]
theorem Xev {v:Nat} (h:v < 4):(List.drop v [.x (.string ⟨#[97]⟩),.x (.string ⟨#[98]⟩),.x (.string ⟨#[99]⟩),.x (.string ⟨#[100]⟩)]).getD 0 AV.top=.x (.string (bs (Xcp.getD v []))):=Xfq Xcp v h
theorem XeC {v:Nat} (h:v≤4):AV.sq (v - 0) (List.take (v - 0) [.x (.string ⟨#[97]⟩),.x (.string ⟨#[98]⟩),.x (.string ⟨#[99]⟩),.x (.string ⟨#[100]⟩)])=.sq (Xcp.take v).length (sa (Xcp.take v)):=by
 match v,h with
 | 0,_=>rfl
 | 1,_=>rfl
 | 2,_=>rfl
 | 3,_=>rfl
 | 4,_=>rfl
theorem Xli (l m:List JF):jfa (l++m)=jfa l++jfa m:=by simp [jfa]
theorem Xmv (v:Nat):∀s∈Xcp.take v,s.length≤8:=fun s hs=>by
 have:=List.mem_of_mem_take hs
 simp only [Xcp,List.mem_cons,List.not_mem_nil,or_false] at this
 rcases this with rfl|rfl|rfl|rfl<;>simp
def JM (j:JF):Prop:=∃i,i < 4∧Xtv (Xcp.getD i []) (Xcp.take i) j
theorem XtZ (bd:Nat) (l:List Int) (k:Nat) (hd:DK l) (hk:k≤l.length):Xa3 Tryz.prog 42 [.box bd [.sq l.length (ia l),.x (.int .i64 k)]] [.x (.pointer (some ⟨bd,0,none⟩))] (fun r H'=>∃(js:List JF) (k':Nat),r=.sq js.length (jfa js)∧H'=[.box bd [.sq l.length (ia l),.x (.int .i64 k')]]∧k'≤l.length∧1≤js.length∧js.length≤4∧∀j∈js,JM j):=by
 refine XaD Tryz.func42 rfl ?_
 simp only [Tryz.ntmps42,Xvy,XvB,XvC,XvD,XvG,XvF,Nat.reduceAdd,Nat.reduceSub]
 (repeat' (first|with_reducible (first|refine Xag ?_|refine Xac ?_|refine Xao ?_|refine Xae ?_|refine Xaa ?_)|((apply Xad rfl);(case h=>(first|(apply Xab 0 rfl;(first|exact Xap _ rfl|exact Xan _ rfl))|(apply Xab 17 rfl;(exact XbI _ _ _ _ _ _ rfl XaY.out rfl (by first|rfl|fail) rfl rfl (by decide)))));(case hT=>((try simp only [wtn]);rfl)))|(refine Xai rfl ?_;((refine Xas 11 rfl ?_;(first|(refine Xam 43 Tryz.f43 [_] _ _ _ rfl rfl Tryz.func43 (by decide) rfl (Xvv _) (VwL.refl _ _) (XbF _ l k 2 hd hk (by omega) (by omega)) ?_;rintro _ _ ⟨v1,k1,rfl,rfl,hv1,hk1⟩)|(refine Xam 59 Tryz.f59 [_] _ _ _ rfl rfl Tryz.func59 (by decide) rfl (Xvv _) (VwL.refl _ _) (XcW _ l k1 1 4 hd hk1 (by omega) (by omega)) ?_;rintro _ _ ⟨v2,k2,rfl,rfl,hv2,hv2',hk2⟩)));apply Xah;(case hT=>((try simp only [wtn]);rfl));(case hH=>((try simp only [wtn]);rfl))))|fail))
 refine Xbt 51 15 ?_
 apply XaQ (S:=Nat × Nat × List JF × Option Addr × Nat) (fun s=>frm 39 [(0,.x (.pointer (some ⟨bd,0,none⟩))),(3,.x (.slice s.2.2.2.1 s.2.2.1.length s.2.2.2.2)),(4,.sq 4 [.x (.string ⟨#[97]⟩),.x (.string ⟨#[98]⟩),.x (.string ⟨#[99]⟩),.x (.string ⟨#[100]⟩)]),(5,.x (.int .i64 v1)),(6,.x (.int .i64 v2)),(7,.x (.int .i64 s.1))])
  (fun s=>[.row s.2.2.2.1 s.2.2.1.length s.2.2.2.2 51 15 (jfa s.2.2.1),.box bd [.sq l.length (ia l),.x (.int .i64 s.2.1)]]) (fun s=>s.1≤v2∧s.2.1≤l.length∧s.2.2.1.length=s.1∧∀j∈s.2.2.1,JM j) (fun s=>v2 - s.1) (0,k2,[],none,0)
 case h0=>exact (XaH.mk' [] _ (Xvv _) (XaB.refl _ _) (by (repeat' (first|exact VwL.nil|(refine VwL.cons ?_ ?_)|exact Vw.refl _|exact Vw.top _|fail))))
 case hi=>exact ⟨Nat.zero_le _,hk2,rfl,by simp⟩
 rintro ⟨i,kk,js,ad,cap⟩ ⟨g1,g2,g3,g4⟩
 simp only at g1 g2 g3 g4
 have g4':=Lib.hid g4
 clear g4
 simp only [frm,XvC,XvD,Xvw,Xvx,XvJ,XvK]
 by_cases hlt:i < v2
 ·(repeat' (first|with_reducible (first|refine Xag ?_|refine Xac ?_|refine Xao ?_|refine Xau ?_|refine Xae ?_|refine Xaa ?_)|(refine Xak _ rfl (fun h=>?_) (fun h=>?_)<;>((try (simp only [whn] at h));first|(exfalso;omega;done)|skip))|((apply Xad rfl);(case h=>(first|(apply Xab 0 rfl;(exact Xap _ rfl))|(apply XaC;(case hs=>(intro _ _ h;cases h));(case hx=>rfl);(case hrun=>(intro w;simp [wtb,AV.val,go_sem];skip;rfl)))));(case hT=>((try simp only [wtn]);rfl)))|fail))
  refine Xc5 (B:=[]) (R:=[_,_]) mixed [0,1,2,3,4,5,6,7,8] [8] [10] (some 9) _ 1 (Xvv _) (by decide +kernel) rfl (Xjg rfl rfl rfl Xbk.out rfl rfl) (by decide) ?_
  (repeat' (first|(apply Xcv rfl rfl;(case h=>(intro H1;(try simp only [XvF]);(first|(apply Xab 0 rfl;(exact Xap _ rfl))|(apply Xab 6 rfl;(exact XaF _ _ _ _ _ rfl rfl XaN.out (by first|(simp [wlq];omega)|fail) (by first|(simp [wlq];omega)|fail)))|(apply Xab 7 rfl;(exact XaG _ _ _ _ _ _ _ _ _ _ rfl rfl rfl HEl.out rfl (by first|omega|fail) (by simp;first|done|fail)))|(apply Xab 9 rfl;(exact XbK _ _ _ _ _ _ _ _ _ _ rfl rfl HEl.out (by first|exact .inl ⟨rfl,rfl⟩|fail) (by first|exact .inr ⟨_,_,rfl,rfl⟩|fail) (by omega) (by omega))))));(case hT=>((try simp (disch:=omega) only [wtn,Xev,XeC,JF.cells,Xvz,Xvw,Xvx,XvA,XvE,Nat.reduceAdd,Nat.reduceMul,Nat.reduceSub,↓reduceIte,Nat.reduceEqDiff]);rfl)))|(apply Xc7 rfl rfl;(refine Xas 11 rfl ?_;(refine Xam 76 Tryz.f76 [_] _ _ _ rfl rfl Tryz.func76 (by decide) rfl (XvI (l₁:=[_])) (VwL.refl _ _) (Xt4 _ l kk hd g2 (Xcp.getD i []) (Xcp.take i) (Xtn Xcp (fun s=>s.length≤8) (by decide) i (by simp [Xcp];omega)) (by simp [Xcp];omega) (Xmv i)) ?_;rintro _ _ ⟨j,k3,rfl,rfl,hk3,hj⟩));refine ⟨_,rfl,?_⟩;apply Xc6;(case hT=>((try simp (disch:=omega) only [wtn,Xev,XeC,JF.cells,Xvz,Xvw,Xvx,XvA,XvE,Nat.reduceAdd,Nat.reduceMul,Nat.reduceSub,↓reduceIte,Nat.reduceEqDiff]);rfl));(case hH=>((try simp (disch:=omega) only [wtn,Xev,XeC,JF.cells,Xvz,Xvw,Xvx,XvA,XvE,Nat.reduceAdd,Nat.reduceMul,Nat.reduceSub,↓reduceIte,Nat.reduceEqDiff]);rfl)))|fail))
  (first|(refine XfC rfl (fun b=>?_))|fail);(apply XaA;(case hT=>((try simp only [wtn]);rfl));(case hH=>(simp only [XvF];rfl)));(refine Xbp 10 (by decide +kernel) rfl rfl ?_;(first|((refine Xas 16 rfl ?_;(refine Xaw _ _ _ _ _ _ _ rfl rfl XaS.out XaR.out (by first|rfl|fail) (by first|exact Xvu rfl|fail) ?_));apply XaA;(case hT=>((try simp only [wtn]);rfl));(case hH=>((try simp only [wtn,Nat.reduceAdd]);rfl)))|fail));refine Xa4 (by decide +kernel) ?_
  (repeat' (first|with_reducible (first|refine Xag ?_|refine Xac ?_|refine Xae ?_|refine Xaa ?_|refine Xaj ?_)|(refine Xak _ rfl (fun h=>?_) (fun h=>?_)<;>((try (simp only [whn] at h));skip))|((apply Xad rfl);(case h=>(first|(apply Xab 0 rfl;(first|exact Xap _ rfl|exact Xan _ rfl))|(apply Xab 6 rfl;(exact Xaz _ _ _ _ _ _ _ _ rfl rfl XaS.out XaN.out (by first|exact Xvu rfl|fail) (by first|exact Xvu rfl|fail)))|(apply XaC;(case hs=>(intro _ _ h;cases h));(case hx=>rfl);(case hrun=>(intro w;simp [wtb,AV.val,go_sem];(try go_bits);rfl)))));(case hT=>((try simp only [wtn,↓reduceIte]);rfl)))|(refine Xai rfl ?_;((first|(refine Xas 13 rfl ?_;(refine XaP _ _ _ _ _ _ _ _ _ _ _ _ _ _ rfl rfl Xb3.out (Src.row _ rfl Xb3.out) XaY.out (by first|rfl|(simp;done)|fail) (XdQ _ _ (by omega) (by decide)) (fun ad cap=>?_)))|(refine Xas 17 rfl ?_;(refine XaE _ _ _ _ _ _ _ _ rfl XaY.out (by first|rfl|fail) rfl (by decide) rfl (fun b=>?_))));apply Xah;(case hT=>((try simp only [wtn]);rfl));(case hH=>((try simp only [wtn,Nat.reduceAdd,Nat.reduceMul]);rfl))))|fail))
  ·refine ⟨(i+1,k3,js++[j],ad,cap),by simp only;omega,⟨by simp only;omega,hk3,by simp only [XvH,Xvy,XvB];omega,fun x hx=>?_⟩,?_⟩
   ·rcases List.mem_append.1 hx with hx|hx
    ·exact g4'.out x hx
    ·rw [List.mem_singleton] at hx;subst hx;exact ⟨i,by omega,hj⟩
   ·simp only [Xli,XvH,Xvy,XvB]
    exact XaH.mk' [_,_] [.row ad _ cap _ _ _,.box bd _] (List.Perm.trans (l₂:=[.row ad _ cap _ _ _,.box bd _]++[_,_]) (by (repeat' (first|exact Xvv _|refine (XvI (l₁:=[_,_])).trans (XvL _ ?_)|refine (XvI (l₁:=[_,_,_])).trans (XvL _ ?_)|fail))) List.perm_append_comm) (XaB.refl _ _) (by (repeat' (first|exact VwL.nil|(refine VwL.cons ?_ ?_)|exact Vw.refl _|exact Vw.top _|fail)))
  ·refine ⟨(i+1,k3,[j]++js,ad,cap),by simp only;omega,⟨by simp only;omega,hk3,by simp only [XvH,Xvy,XvB];omega,fun x hx=>?_⟩,?_⟩
   ·rcases List.mem_append.1 hx with hx|hx
    ·rw [List.mem_singleton] at hx;subst hx;exact ⟨i,by omega,hj⟩
    ·exact g4'.out x hx
   ·simp only [Xli,XvH,Xvy,XvB]
    exact XaH.mk' [_,_] [.row ad _ cap _ _ _,.box bd _] (List.Perm.trans (l₂:=[.row ad _ cap _ _ _,.box bd _]++[_,_]) (by (repeat' (first|exact Xvv _|refine XvL _ ?_|refine (XvI (l₁:=[_])).trans (XvL _ ?_)|fail))) List.perm_append_comm) (XaB.refl _ _) (by (repeat' (first|exact VwL.nil|(refine VwL.cons ?_ ?_)|exact Vw.refl _|exact Vw.top _|fail)))
 ·(repeat' (first|with_reducible (first|refine Xag ?_|refine Xac ?_|refine Xar ?_|refine XaW ?_|refine Xae ?_|refine Xaa ?_|refine XaL ?_|refine XaJ ?_)|(refine Xak _ rfl (fun h=>?_) (fun h=>?_)<;>((try (simp only [whn] at h));first|(exfalso;omega;done)|skip))|((apply Xad rfl);(case h=>(first|(apply Xab 0 rfl;(first|exact Xap _ rfl|exact Xan _ rfl))|(apply XaC;(case hs=>(intro _ _ h;cases h));(case hx=>rfl);(case hrun=>(intro w;simp [wtb,AV.val,go_sem];skip;rfl)))));(case hT=>((try simp only [wtn]);rfl)))|fail))
  refine Xaf _ _ (Xbh rfl (RV.tmp _) (XaH.mk' [_] [_] (Xvv _) (XaB.refl _ _) (VwL.cons (Vw.row (List.Mem.head _) (VwL.refl _ _)) VwL.nil))) ⟨js,kk,rfl,rfl,g2,by omega,by omega,g4'.out⟩
theorem Xhq (r:List (List UInt8)):(r.flatMap Xji).length=2*r.length:=by
 induction r with
 | nil=>rfl
 | cons y r ih=>simp only [List.flatMap_cons,XvH,ih,Xvy];simp [Xji];omega
theorem Xhx (r:List (Int × Int)):(r.flatMap Xjx).length=3*r.length:=by
 induction r with
 | nil=>rfl
 | cons y r ih=>simp only [List.flatMap_cons,XvH,ih,Xvy];simp [Xjx,Xjy];omega
section
variable {ts:List Tok} {k:Nat}
def XlR (seen ws:List (List UInt8)):Prop:=XlP∈seen∧∀w∈ws,w ∉ seen
theorem XlR.step {seen ws:List (List UInt8)} {w:List UInt8} (h:XlR seen (w :: ws)) (hn:w ∉ ws):XlR (seen++[w]) ws:=by
 refine ⟨List.mem_append_left _ h.1,fun v hv hm=>?_⟩
 rcases List.mem_append.1 hm with hm|hm
 ·exact h.2 v (by simp [hv]) hm
 ·rw [List.mem_singleton] at hm;subst hm;exact hn hv
theorem XlR.drop {seen ws:List (List UInt8)} {w:List UInt8} (h:XlR seen (w :: ws)):XlR seen ws:=⟨h.1,fun v hv=>h.2 v (by simp [hv])⟩
theorem Xq4 {name:Tok} {j:JF} {run:List UInt8} (h:At ts k [(1,XlP),(3,run)]) (hl:run.length≤512):Xbg ts name k [] j=Xbg ts name (k+2) [XlP] { j with run:=run }:=by
 obtain ⟨a1,a2,b1,b2,-⟩:=h
 rw [Xdh (j':={ j with run:=run }) (k':=k+2) a1 a2 (by decide) (fun _=>by simp) ?_ (by omega),if_neg (by decide)]
 ·rfl
 ·unfold XbU
  rw [if_pos rfl,Xd3 b1 b2 hl]
  simp only [Except.map,b2]
theorem Xpe {name:Tok} {j:JF} {seen:List (List UInt8)} {l:List (List UInt8)} (h:At ts k (Xeu l)) (hs:XlR seen [XgP,Xe7,XcO,XcA,Xeq,XgQ]) (hj:j.needs=[]) (hend:gIs ts (k+(Xeu l).length) [44]=false) (hw:∀y∈l,y.length≤32) (hd:l.Nodup) (hl:l.length≤16) :
  ∃seen',XlR seen' [Xe7,XcO,XcA,Xeq,XgQ]∧Xbg ts name k seen j=Xbg ts name (k+(Xeu l).length) seen' { j with needs:=l }:=by
 cases l with
 | nil=>exact ⟨seen,hs.drop,by cases j;cases hj;rfl⟩
 | cons x r=>
   obtain ⟨a1,a2,h2⟩:=h
   have hlen:(Xeu (x :: r)).length=2+2*r.length:=by simp only [Xeu,Xvy,Xhq];omega
   rw [hlen] at hend ⊢
   have e:k+(2+2*r.length)=k+1+1+2*r.length:=by omega
   rw [e] at hend ⊢
   refine ⟨seen++[XgP],hs.step (by decide),?_⟩
   rw [Xdh (j':={ j with needs:=x :: r }) (k':=k+1+1+2*r.length) a1 a2 (by decide) (fun _=>hs.2 _ (by simp)) ?_ (by omega),if_neg (by decide)]
   unfold XbU
   rw [if_neg (by decide),if_neg (by decide),if_pos rfl,Xjj r x (k+1) [] h2 hend hw hd hl]
   rfl
theorem XmQ {name:Tok} {j g:JF} {seen:List (List UInt8)} (h:At ts k (Xdx g)) (hs:XlR seen [Xe7,XcO,XcA,Xeq,XgQ]) (hj:j.ready=[]∧j.hasr=false) (hg:(g.hasr=true∧XhH g.ready∧g.ready.length≤128)∨(g.hasr=false∧g.ready=[])) :
  ∃seen',XlR seen' [XcO,XcA,Xeq,XgQ]∧Xbg ts name k seen j=Xbg ts name (k+(Xdx g).length) seen' { j with hasr:=g.hasr,ready:=g.ready }:=by
 unfold Xdx at h ⊢
 rcases hg with ⟨h1,-,h3⟩|⟨h1,h2⟩
 ·rw [h1,if_pos rfl] at h
  obtain ⟨a1,a2,b1,b2,-⟩:=h
  refine ⟨seen++[Xe7],hs.step (by decide),?_⟩
  rw [h1,if_pos rfl,Xdh (j':={ j with hasr:=true,ready:=g.ready }) (k':=k+2) a1 a2 (by decide) (fun _=>hs.2 _ (by simp)) ?_ (by omega),if_neg (by decide)]
  ·rfl
  ·unfold XbU
   rw [if_neg (by decide),if_neg (by decide),if_neg (by decide),if_pos rfl,Xd3 b1 b2 h3]
   simp only [Except.map,b2]
 ·refine ⟨seen,hs.drop,?_⟩
  rw [h1,h2]
  obtain ⟨h5,h6⟩:=hj
  cases j
  cases h5
  cases h6
  rfl
theorem Xpf {name:Tok} {j g:JF} {seen:List (List UInt8)} (h:At ts k (Xjr g)) (hs:XlR seen [XcO,XcA,Xeq,XgQ]) (hg:XgW g) :
  ∃seen',XlR seen' [XgQ]∧Xbg ts name k seen j=Xbg ts name (k+9) seen' { j with restart:=g.restart,base:=g.base,cap:=g.cap,stable:=g.stable,burst:=g.burst,window:=g.window }:=by
 obtain ⟨a1,a2,b1,b2,c1,c2,d1,d2,e1,e2,f1,f2,p1,p2,q1,q2,r1,r2,-⟩:=h
 have hs2:=hs.step (by decide)
 have hs3:=hs2.step (by decide)
 have hs4:=hs3.step (by decide)
 have hbn:Xg6 g.burst:=⟨by have:=hg.burst.1;omega,by have:=hg.burst.2;omega⟩
 refine ⟨_,hs4,?_⟩
 rw [Xdh (j':={ j with restart:=g.restart }) (k':=k+2) a1 a2 (by decide) (fun _=>hs.2 _ (by simp)) ?_ (by omega),if_neg (by decide),
  Xdh (j':={ j with restart:=g.restart,base:=g.base,cap:=g.cap,stable:=g.stable }) (k':=k+2+4) c1 c2 (by decide) (fun _=>hs2.2 _ (by simp)) ?_ (by omega),if_neg (by decide),
  Xdh (j':={ j with restart:=g.restart,base:=g.base,cap:=g.cap,stable:=g.stable,burst:=g.burst,window:=g.window }) (k':=k+9) p1 p2 (by decide) (fun _=>hs3.2 _ (by simp)) ?_ (by omega),if_neg (by decide)]
 ·unfold XbU
  rw [if_neg (by decide),if_neg (by decide),if_neg (by decide),if_neg (by decide),if_neg (by decide),if_neg (by decide),if_pos rfl,Xhs hbn q1 q2]
  simp only [bind,Except.bind]
  rw [if_neg (by have:=hg.burst;omega),Xhs hg.window r1 r2]
 ·unfold XbU
  rw [if_neg (by decide),if_neg (by decide),if_neg (by decide),if_neg (by decide),if_neg (by decide),if_pos rfl,Xhs hg.base d1 d2]
  simp only [bind,Except.bind]
  rw [Xhs hg.cap e1 e2]
  simp only
  rw [Xhs hg.stable f1 f2]
 ·unfold XbU
  rw [if_neg (by decide),if_neg (by decide),if_neg (by decide),if_neg (by decide),if_pos rfl]
  have e:Xix ts (k+1)=.ok g.restart:=by
   unfold Xix
   have hle:(XdD g.restart).length≤8192:=by rcases hg.restart with h|h|h<;>rw [h]<;>decide
   rw [Xd3 b1 b2 hle]
   simp only [bind,Except.bind,b2]
   rcases hg.restart with h|h|h<;>rw [h]<;>rfl
  rw [e];rfl
theorem Xpg {name:Tok} {j:JF} {seen:List (List UInt8)} {l:List (Int × Int)} (h:At ts k (XmW l++[(5,[125])])) (hs:XlR seen [XgQ]) (hne:l≠[]) (hw:∀y∈l,(y.1=1∨y.1=2∨y.1=3∨y.1=10∨y.1=12∨y.1=15)∧Xg6 y.2) (hl:l.length≤5) :
  Xbg ts name k seen j=.ok ({ j with ladder:=l },k+(XmW l).length+1):=by
 rw [XeH] at h
 obtain ⟨h,c1,c2,-⟩:=h
 cases l with
 | nil=>exact absurd rfl hne
 | cons x r=>
   obtain ⟨a1,a2,h2⟩:=h
   have hlen:(XmW (x :: r)).length=3+3*r.length:=by simp only [XmW,Xjy,Xvy,XvH,XvB,Xhx];omega
   rw [hlen] at c1 c2 ⊢
   have e:k+(3+3*r.length)=k+1+2+3*r.length:=by omega
   rw [e] at c1 c2 ⊢
   rw [Xdh (j':={ j with ladder:=x :: r }) (k':=k+1+2+3*r.length) a1 a2 (by decide) (fun _=>hs.2 _ (by simp)) ?_ (by omega),if_neg (by decide),Xoj (Xqd c1 c2) (List.mem_append_left _ hs.1)]
   unfold XbU
   rw [if_neg (by decide),if_neg (by decide),if_neg (by decide),if_neg (by decide),if_neg (by decide),if_neg (by decide),if_neg (by decide),Xhy r x (k+1) [] h2 (Xqe (by rw [c2];decide)) hw hl]
   rfl
theorem Xqh (j:JF) (h:XgW j) (hA:At ts k (Xg2 j)):∃l c,Xiw ts k false=.ok ({ j with line:=l,col:=c },k+(Xg2 j).length):=by
 have e2:Xg2 j=Xi3 j++(Xmf j.env++(Xeu j.needs++(Xdx j++(Xjr j++(XmW j.ladder++[(5,[125])]))))):=by simp [Xg2]
 rw [e2,XeH,XeH,XeH,XeH,XeH] at hA
 obtain ⟨⟨a1,a2,b1,b2,c1,c2,h1⟩,h2,h3,h4,h5,h6⟩:=hA
 refine ⟨(tkA ts (k+1)).line,(tkA ts (k+1)).col,?_⟩
 have s0:Xiw ts k false=Xbg ts (tkA ts (k+1)) (k+3) [] (Xg1 (tkA ts (k+1))):=by
  unfold Xiw
  rw [Xd3 a1 a2 (by decide)]
  simp only [bind,Except.bind]
  rw [if_neg (by rw [a2];exact fun e=>e rfl),Xkv h.name.2 rfl b1 b2]
  simp only
  rw [show k+2=k+1+1 from rfl,Xpb c1 c2]
 have s1:=Xq4 (name:=tkA ts (k+1)) (j:=Xg1 (tkA ts (k+1))) h1 h.run
 have hh:(Xi3 j).length=5:=rfl
 rw [hh] at h2 h3 h4 h5 h6
 have s2:=XiW (name:=tkA ts (k+1)) (seen:=[XlP]) j.env (k+5) { Xg1 (tkA ts (k+1)) with run:=j.run } h2 (fun p hp=>(h.enve p hp).2) h.envd h.env
 have hend:gIs ts (k+5+(Xmf j.env).length+(Xeu j.needs).length) [44]=false:=by
  have:At ts (k+5+(Xmf j.env).length+(Xeu j.needs).length) (Xdx j++Xjr j):=XeH.2 ⟨h4,h5⟩
  refine XtX ?_
  unfold Xdx at this
  cases hr:j.hasr with
  | true=>rw [hr] at this;rw [this.1];decide
  | false=>rw [hr] at this;rw [this.1];decide
 obtain ⟨seen1,w1,s3⟩:=Xpe (name:=tkA ts (k+1)) (j:={ Xg1 (tkA ts (k+1)) with run:=j.run,env:=j.env }) (seen:=[XlP]) h3 ⟨by simp,by decide⟩ rfl hend (fun y hy=>(h.neede y hy).2) h.needd h.needs
 obtain ⟨seen2,w2,s4⟩:=XmQ (name:=tkA ts (k+1)) (j:={ Xg1 (tkA ts (k+1)) with run:=j.run,env:=j.env,needs:=j.needs }) (g:=j) h4 w1 ⟨rfl,rfl⟩ h.ready
 obtain ⟨seen3,w3,s5⟩:=Xpf (name:=tkA ts (k+1)) (j:={ Xg1 (tkA ts (k+1)) with run:=j.run,env:=j.env,needs:=j.needs,hasr:=j.hasr,ready:=j.ready }) h5 w2 h
 have s6:=Xpg (name:=tkA ts (k+1)) (j:={ Xg1 (tkA ts (k+1)) with run:=j.run,env:=j.env,needs:=j.needs,hasr:=j.hasr,ready:=j.ready,restart:=j.restart,base:=j.base,cap:=j.cap,stable:=j.stable,burst:=j.burst,window:=j.window }) h6 w3 h.ladder.1 h.laddere h.ladder.2
 rw [s0,s1]
 refine s2.trans (s3.trans (s4.trans (s5.trans (s6.trans ?_))))
 have hK:k+(Xg2 j).length=k+5+(Xmf j.env).length+(Xeu j.needs).length+(Xdx j).length+(Xjr j).length+(XmW j.ladder).length+1:=by
  rw [e2]
  simp only [XvH,hh,Xvy,XvB];omega
 rw [hK]
 simp only [Xg1,b2]
theorem Xi6:∀(l:List JF) (k:Nat) (out:List JF),(∀j∈l,XgW j)→At ts k (l.flatMap Xg2++[(6,[])])→(out++l).length≤32→∃l',RL l l'∧XdZ ts k out=.ok (out++l')
 | [],k,out,_,h,_=>⟨[],trivial,by rw [XdZ,if_pos h.1,List.append_nil]⟩
 | j :: l,k,out,hg,h,hl=>by
   rw [List.flatMap_cons,List.append_assoc,XeH] at h
   obtain ⟨h1,h2⟩:=h
   obtain ⟨a,b,hj⟩:=Xqh j (hg j (by simp)) h1
   have hk:(tkA ts k).kind=1:=by
    have:Xg2 j=(1,Xtm) :: (Xg2 j).tail:=by simp [Xg2,Xi3]
    rw [this] at h1;exact h1.1
   have h0:0 < (Xg2 j).length:=by simp [Xg2,Xi3]
   obtain ⟨l',r1,r2⟩:=Xi6 l (k+(Xg2 j).length) (out++[{ j with line:=a,col:=b }]) (fun q hq=>hg q (by simp [hq])) h2 (by simpa using hl)
   refine ⟨{ j with line:=a,col:=b } :: l',⟨⟨a,b,rfl⟩,r1⟩,?_⟩
   rw [XdZ,if_neg (by rw [hk];decide),show decide (32≤out.length)=false from decide_eq_false (by simp at hl;omega),hj]
   simp only
   rw [dif_pos ⟨by omega,XlM (by rw [hk];decide)⟩,r2]
   simp
end
theorem Xpm (l:List JF) (hg:∀j∈l,XgW j) (hn:l.length≤32) (ht:(l.flatMap Xg2).length≤2000) (hb:(l.flatMap Xe0).length≤8192):∃l',RL l l'∧Xds (l.flatMap Xe0)=.ok l':=by
 obtain ⟨ts,h1,h2⟩:=Xhv l hg (1,1) 0 [] trivial (by omega)
 rw [List.append_nil,XcU _ _ [] (by rw [XgJ];rfl)] at h2
 unfold Xds lex
 rw [if_neg (by omega),h2]
 simp only [Except.map]
 have hk:∀e:Tok,e.kind=6→e.text=[]→kts (ts++[e])=l.flatMap Xg2++[(6,[])]:=fun e h6 ht=>by
  simp only [kts,List.map_append] at h1 ⊢
  rw [h1];simp [h6,ht]
 obtain ⟨l',r1,r2⟩:=Xi6 (ts:=ts++[⟨6,[],(plc (plc (1,1) (l.flatMap Xe0)) []).1,(plc (plc (1,1) (l.flatMap Xe0)) []).2⟩]) l 0 [] hg (Xts [] rfl _ (hk _ rfl rfl) rfl) (by simpa using hn)
 exact ⟨l',r1,r2⟩
end Go.Proofs.YtdpobjakdplljaaGreatDoor
