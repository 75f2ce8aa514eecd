import Derived.Test.YtdpobjakdplljaaGreatDoorV19
import Derived.Test.YtdpobjakdplljaaGreatDoorV15
/- The mill: at most four jobs. -/
set_option linter.unusedSimpArgs false
set_option linter.unusedVariables false
set_option maxRecDepth 100000
set_option maxHeartbeats 8000000
namespace Go.Proofs.YtdpobjakdplljaaGreatDoor
open Go.RowKit
def Xcp:List (List UInt8):=[[97],[98],[99],[100]]
theorem Xex {v:Nat} (h:v < 4):(List.drop v [.x (.string ⟨#[97]⟩),.x (.string ⟨#[98]⟩),.x (.string ⟨#[99]⟩),.x (.string ⟨#[100]⟩)]).getD 0 AV.top=.x (.string (bs (Xcp.getD v []))):=Xfu Xcp v h
theorem XeE {v:Nat} (h:v≤4):AV.sq (v - 0) (List.take (v - 0) [.x (.string ⟨#[97]⟩),.x (.string ⟨#[98]⟩),.x (.string ⟨#[99]⟩),.x (.string ⟨#[100]⟩)])=.sq (Xcp.take v).length (sa (Xcp.take v)):=by
 match v,h with
 | 0,_=>rfl
 | 1,_=>rfl
 | 2,_=>rfl
 | 3,_=>rfl
 | 4,_=>rfl
theorem Xlg (l m:List JF):jfa (l++m)=jfa l++jfa m:=by simp [jfa]
theorem Xms (v:Nat):∀s∈Xcp.take v,s.length≤8:=fun s hs=>by
 have:=List.mem_of_mem_take hs
 simp only [Xcp,List.mem_cons,List.not_mem_nil,or_false] at this
 rcases this with rfl|rfl|rfl|rfl<;>simp
def JM (j:JF):Prop:=∃i,i < 4∧Xs4 (Xcp.getD i []) (Xcp.take i) j
theorem XtA (bd:Nat) (l:List Int) (k:Nat) (hd:DK l) (hk:k≤l.length):Xa8 Tryz.prog 42 [.box bd [.sq l.length (ia l),.x (.int .i64 k)]] [.x (.pointer (some ⟨bd,0,none⟩))] (fun r H'=>∃(js:List JF) (k':Nat),r=.sq js.length (jfa js)∧H'=[.box bd [.sq l.length (ia l),.x (.int .i64 k')]]∧k'≤l.length∧1≤js.length∧js.length≤4∧∀j∈js,JM j):=by
 refine XaE Tryz.func42 rfl ?_
 simp only [Tryz.ntmps42,Xu8,Xvb,Xvc,Xvd,Xvg,Xvf,Nat.reduceAdd,Nat.reduceSub]
 (repeat' (first|with_reducible (first|refine Xai ?_|refine Xac ?_|refine Xat ?_|refine Xae ?_|refine Xaa ?_)|((apply Xad rfl);(case h=>(first|(apply Xab 0 rfl;(first|exact Xar _ rfl|exact Xap _ rfl))|(apply Xab 17 rfl;(exact XbU _ _ _ _ _ _ rfl XaZ.out rfl (by first|rfl|fail) rfl rfl (by decide)))));(case hT=>((try simp only [wtn]);rfl)))|(refine Xah rfl ?_;((refine Xaq 11 rfl ?_;(first|(refine Xak 43 Tryz.f43 [_] _ _ _ rfl rfl Tryz.func43 (by decide) rfl (Xu5 _) (VwL.refl _ _) (XbB _ l k 2 hd hk (by omega) (by omega)) ?_;rintro _ _ ⟨v1,k1,rfl,rfl,hv1,hk1⟩)|(refine Xak 59 Tryz.f59 [_] _ _ _ rfl rfl Tryz.func59 (by decide) rfl (Xu5 _) (VwL.refl _ _) (XcT _ l k1 1 4 hd hk1 (by omega) (by omega)) ?_;rintro _ _ ⟨v2,k2,rfl,rfl,hv2,hv2',hk2⟩)));apply Xag;(case hT=>((try simp only [wtn]);rfl));(case hH=>((try simp only [wtn]);rfl))))|fail))
 refine Xbw 51 15 ?_
 apply XaW (S:=Nat × Nat × List JF × Option Addr × Nat) (fun s=>frm 39 [(0,.x (.pointer (some ⟨bd,0,none⟩))),(3,.x (.slice s.2.2.2.1 s.2.2.1.length s.2.2.2.2)),(4,.sq 4 [.x (.string ⟨#[97]⟩),.x (.string ⟨#[98]⟩),.x (.string ⟨#[99]⟩),.x (.string ⟨#[100]⟩)]),(5,.x (.int .i64 v1)),(6,.x (.int .i64 v2)),(7,.x (.int .i64 s.1))])
  (fun s=>[.row s.2.2.2.1 s.2.2.1.length s.2.2.2.2 51 15 (jfa s.2.2.1),.box bd [.sq l.length (ia l),.x (.int .i64 s.2.1)]]) (fun s=>s.1≤v2∧s.2.1≤l.length∧s.2.2.1.length=s.1∧∀j∈s.2.2.1,JM j) (fun s=>v2 - s.1) (0,k2,[],none,0)
 case h0=>exact (XaH.mk' [] _ (Xu5 _) (XaB.refl _ _) (by (repeat' (first|exact VwL.nil|(refine VwL.cons ?_ ?_)|exact Vw.refl _|exact Vw.top _|fail))))
 case hi=>exact ⟨Nat.zero_le _,hk2,rfl,by simp⟩
 rintro ⟨i,kk,js,ad,cap⟩ ⟨g1,g2,g3,g4⟩
 simp only at g1 g2 g3 g4
 have g4':=Lib.hid g4
 clear g4
 simp only [frm,Xvc,Xvd,Xu6,Xu7,Xvj,Xvk]
 by_cases hlt:i < v2
 ·(repeat' (first|with_reducible (first|refine Xai ?_|refine Xac ?_|refine Xat ?_|refine Xaw ?_|refine Xae ?_|refine Xaa ?_)|(refine Xal _ rfl (fun h=>?_) (fun h=>?_)<;>((try (simp only [whn] at h));first|(exfalso;omega;done)|skip))|((apply Xad rfl);(case h=>(first|(apply Xab 0 rfl;(exact Xar _ rfl))|(apply XaD;(case hs=>(intro _ _ h;cases h));(case hx=>rfl);(case hrun=>(intro w;simp [wtb,AV.val,go_sem];skip;rfl)))));(case hT=>((try simp only [wtn]);rfl)))|fail))
  refine Xdi (B:=[]) (R:=[_,_]) mixed [0,1,2,3,4,5,6,7,8] [8] [10] (some 9) _ 1 (Xu5 _) (by decide +kernel) rfl (Xjc rfl rfl rfl Xbl.out rfl rfl) (by decide) ?_
  (repeat' (first|(apply XcL rfl rfl;(case h=>(intro H1;(try simp only [Xvf]);(first|(apply Xab 0 rfl;(exact Xar _ rfl))|(apply Xab 6 rfl;(exact XaG _ _ _ _ _ rfl rfl XaM.out (by first|(simp [wlq];omega)|fail) (by first|(simp [wlq];omega)|fail)))|(apply Xab 7 rfl;(exact XaI _ _ _ _ _ _ _ _ _ _ rfl rfl rfl HEl.out rfl (by first|omega|fail) (by simp;first|done|fail)))|(apply Xab 9 rfl;(exact Xcl _ _ _ _ _ _ _ _ _ _ rfl rfl HEl.out (by first|exact .inl ⟨rfl,rfl⟩|fail) (by first|exact .inr ⟨_,_,rfl,rfl⟩|fail) (by omega) (by omega))))));(case hT=>((try simp (disch:=omega) only [wtn,Xex,XeE,JF.cells,Xu9,Xu6,Xu7,Xva,Xve,Nat.reduceAdd,Nat.reduceMul,Nat.reduceSub,↓reduceIte,Nat.reduceEqDiff]);rfl)))|(apply Xdl rfl rfl;(refine Xaq 11 rfl ?_;(refine Xak 76 Tryz.f76 [_] _ _ _ rfl rfl Tryz.func76 (by decide) rfl (Xvi (l₁:=[_])) (VwL.refl _ _) (XtD _ l kk hd g2 (Xcp.getD i []) (Xcp.take i) (XsX Xcp (fun s=>s.length≤8) (by decide) i (by simp [Xcp];omega)) (by simp [Xcp];omega) (Xms i)) ?_;rintro _ _ ⟨j,k3,rfl,rfl,hk3,hj⟩));refine ⟨_,rfl,?_⟩;apply Xdk;(case hT=>((try simp (disch:=omega) only [wtn,Xex,XeE,JF.cells,Xu9,Xu6,Xu7,Xva,Xve,Nat.reduceAdd,Nat.reduceMul,Nat.reduceSub,↓reduceIte,Nat.reduceEqDiff]);rfl));(case hH=>((try simp (disch:=omega) only [wtn,Xex,XeE,JF.cells,Xu9,Xu6,Xu7,Xva,Xve,Nat.reduceAdd,Nat.reduceMul,Nat.reduceSub,↓reduceIte,Nat.reduceEqDiff]);rfl)))|fail))
  (first|(refine XfF rfl (fun b=>?_))|fail);(apply Xav;(case hT=>((try simp only [wtn]);rfl));(case hH=>(simp only [Xvf];rfl)));(refine Xbm 10 (by decide +kernel) rfl rfl ?_;(first|((refine Xaq 16 rfl ?_;(refine Xau _ _ _ _ _ _ _ rfl rfl XaU.out XaS.out (by first|rfl|fail) (by first|exact Xu4 rfl|fail) ?_));apply Xav;(case hT=>((try simp only [wtn]);rfl));(case hH=>((try simp only [wtn,Nat.reduceAdd]);rfl)))|fail));refine Xa0 (by decide +kernel) ?_
  (repeat' (first|with_reducible (first|refine Xai ?_|refine Xac ?_|refine Xae ?_|refine Xaa ?_|refine Xaj ?_)|(refine Xal _ rfl (fun h=>?_) (fun h=>?_)<;>((try (simp only [whn] at h));skip))|((apply Xad rfl);(case h=>(first|(apply Xab 0 rfl;(first|exact Xar _ rfl|exact Xap _ rfl))|(apply Xab 6 rfl;(exact Xaz _ _ _ _ _ _ _ _ rfl rfl XaU.out XaM.out (by first|exact Xu4 rfl|fail) (by first|exact Xu4 rfl|fail)))|(apply XaD;(case hs=>(intro _ _ h;cases h));(case hx=>rfl);(case hrun=>(intro w;simp [wtb,AV.val,go_sem];(try go_bits);rfl)))));(case hT=>((try simp only [wtn,↓reduceIte]);rfl)))|(refine Xah rfl ?_;((first|(refine Xaq 13 rfl ?_;(refine XaP _ _ _ _ _ _ _ _ _ _ _ _ _ _ rfl rfl Xb9.out (Src.row _ rfl Xb9.out) XaZ.out (by first|rfl|(simp;done)|fail) (Xei _ _ (by omega) (by decide)) (fun ad cap=>?_)))|(refine Xaq 17 rfl ?_;(refine XaF _ _ _ _ _ _ _ _ rfl XaZ.out (by first|rfl|fail) rfl (by decide) rfl (fun b=>?_))));apply Xag;(case hT=>((try simp only [wtn]);rfl));(case hH=>((try simp only [wtn,Nat.reduceAdd,Nat.reduceMul]);rfl))))|fail))
  ·refine ⟨(i+1,k3,js++[j],ad,cap),by simp only;omega,⟨by simp only;omega,hk3,by simp only [Xvh,Xu8,Xvb];omega,fun x hx=>?_⟩,?_⟩
   ·rcases List.mem_append.1 hx with hx|hx
    ·exact g4'.out x hx
    ·rw [List.mem_singleton] at hx;subst hx;exact ⟨i,by omega,hj⟩
   ·simp only [Xlg,Xvh,Xu8,Xvb]
    exact XaH.mk' [_,_] [.row ad _ cap _ _ _,.box bd _] (List.Perm.trans (l₂:=[.row ad _ cap _ _ _,.box bd _]++[_,_]) (by (repeat' (first|exact Xu5 _|refine (Xvi (l₁:=[_,_])).trans (Xvl _ ?_)|refine (Xvi (l₁:=[_,_,_])).trans (Xvl _ ?_)|fail))) List.perm_append_comm) (XaB.refl _ _) (by (repeat' (first|exact VwL.nil|(refine VwL.cons ?_ ?_)|exact Vw.refl _|exact Vw.top _|fail)))
  ·refine ⟨(i+1,k3,[j]++js,ad,cap),by simp only;omega,⟨by simp only;omega,hk3,by simp only [Xvh,Xu8,Xvb];omega,fun x hx=>?_⟩,?_⟩
   ·rcases List.mem_append.1 hx with hx|hx
    ·rw [List.mem_singleton] at hx;subst hx;exact ⟨i,by omega,hj⟩
    ·exact g4'.out x hx
   ·simp only [Xlg,Xvh,Xu8,Xvb]
    exact XaH.mk' [_,_] [.row ad _ cap _ _ _,.box bd _] (List.Perm.trans (l₂:=[.row ad _ cap _ _ _,.box bd _]++[_,_]) (by (repeat' (first|exact Xu5 _|refine Xvl _ ?_|refine (Xvi (l₁:=[_])).trans (Xvl _ ?_)|fail))) List.perm_append_comm) (XaB.refl _ _) (by (repeat' (first|exact VwL.nil|(refine VwL.cons ?_ ?_)|exact Vw.refl _|exact Vw.top _|fail)))
 ·(repeat' (first|with_reducible (first|refine Xai ?_|refine Xac ?_|refine Xas ?_|refine Xa4 ?_|refine Xae ?_|refine Xaa ?_|refine XaN ?_|refine XaK ?_)|(refine Xal _ rfl (fun h=>?_) (fun h=>?_)<;>((try (simp only [whn] at h));first|(exfalso;omega;done)|skip))|((apply Xad rfl);(case h=>(first|(apply Xab 0 rfl;(first|exact Xar _ rfl|exact Xap _ rfl))|(apply XaD;(case hs=>(intro _ _ h;cases h));(case hx=>rfl);(case hrun=>(intro w;simp [wtb,AV.val,go_sem];skip;rfl)))));(case hT=>((try simp only [wtn]);rfl)))|fail))
  refine Xaf _ _ (Xbi rfl (RV.tmp _) (XaH.mk' [_] [_] (Xu5 _) (XaB.refl _ _) (VwL.cons (Vw.row (List.Mem.head _) (VwL.refl _ _)) VwL.nil))) ⟨js,kk,rfl,rfl,g2,by omega,by omega,g4'.out⟩
theorem Xhl (r:List (List UInt8)):(r.flatMap Xje).length=2*r.length:=by
 induction r with
 | nil=>rfl
 | cons y r ih=>simp only [List.flatMap_cons,Xvh,ih,Xu8];simp [Xje];omega
theorem Xhs (r:List (Int × Int)):(r.flatMap Xju).length=3*r.length:=by
 induction r with
 | nil=>rfl
 | cons y r ih=>simp only [List.flatMap_cons,Xvh,ih,Xu8];simp [Xju,Xjv];omega
section
variable {ts:List Tok} {k:Nat}
def XlO (seen ws:List (List UInt8)):Prop:=XlK∈seen∧∀w∈ws,w ∉ seen
theorem XlO.step {seen ws:List (List UInt8)} {w:List UInt8} (h:XlO seen (w :: ws)) (hn:w ∉ ws):XlO (seen++[w]) ws:=by
 refine ⟨List.mem_append_left _ h.1,fun v hv hm=>?_⟩
 rcases List.mem_append.1 hm with hm|hm
 ·exact h.2 v (by simp [hv]) hm
 ·rw [List.mem_singleton] at hm;subst hm;exact hn hv
theorem XlO.drop {seen ws:List (List UInt8)} {w:List UInt8} (h:XlO seen (w :: ws)):XlO seen ws:=⟨h.1,fun v hv=>h.2 v (by simp [hv])⟩
theorem XqQ {name:Tok} {j:JF} {run:List UInt8} (h:At ts k [(1,XlK),(3,run)]) (hl:run.length≤512):Xbf ts name k [] j=Xbf ts name (k+2) [XlK] { j with run:=run }:=by
 obtain ⟨a1,a2,b1,b2,-⟩:=h
 rw [Xdd (j':={ j with run:=run }) (k':=k+2) a1 a2 (by decide) (fun _=>by simp) ?_ (by omega),if_neg (by decide)]
 ·rfl
 ·unfold XbM
  rw [if_pos rfl,Xd1 b1 b2 hl]
  simp only [Except.map,b2]
theorem Xpe {name:Tok} {j:JF} {seen:List (List UInt8)} {l:List (List UInt8)} (h:At ts k (Xew l)) (hs:XlO seen [XgP,Xfb,XcN,Xcy,Xeq,XgQ]) (hj:j.needs=[]) (hend:gIs ts (k+(Xew l).length) [44]=false) (hw:∀y∈l,y.length≤32) (hd:l.Nodup) (hl:l.length≤16) :
  ∃seen',XlO seen' [Xfb,XcN,Xcy,Xeq,XgQ]∧Xbf ts name k seen j=Xbf ts name (k+(Xew l).length) seen' { j with needs:=l }:=by
 cases l with
 | nil=>exact ⟨seen,hs.drop,by cases j;cases hj;rfl⟩
 | cons x r=>
   obtain ⟨a1,a2,h2⟩:=h
   have hlen:(Xew (x :: r)).length=2+2*r.length:=by simp only [Xew,Xu8,Xhl];omega
   rw [hlen] at hend ⊢
   have e:k+(2+2*r.length)=k+1+1+2*r.length:=by omega
   rw [e] at hend ⊢
   refine ⟨seen++[XgP],hs.step (by decide),?_⟩
   rw [Xdd (j':={ j with needs:=x :: r }) (k':=k+1+1+2*r.length) a1 a2 (by decide) (fun _=>hs.2 _ (by simp)) ?_ (by omega),if_neg (by decide)]
   unfold XbM
   rw [if_neg (by decide),if_neg (by decide),if_pos rfl,Xjf r x (k+1) [] h2 hend hw hd hl]
   rfl
theorem XmM {name:Tok} {j g:JF} {seen:List (List UInt8)} (h:At ts k (Xdy g)) (hs:XlO seen [Xfb,XcN,Xcy,Xeq,XgQ]) (hj:j.ready=[]∧j.hasr=false) (hg:(g.hasr=true∧XhC g.ready∧g.ready.length≤128)∨(g.hasr=false∧g.ready=[])) :
  ∃seen',XlO seen' [XcN,Xcy,Xeq,XgQ]∧Xbf ts name k seen j=Xbf ts name (k+(Xdy g).length) seen' { j with hasr:=g.hasr,ready:=g.ready }:=by
 unfold Xdy at h ⊢
 rcases hg with ⟨h1,-,h3⟩|⟨h1,h2⟩
 ·rw [h1,if_pos rfl] at h
  obtain ⟨a1,a2,b1,b2,-⟩:=h
  refine ⟨seen++[Xfb],hs.step (by decide),?_⟩
  rw [h1,if_pos rfl,Xdd (j':={ j with hasr:=true,ready:=g.ready }) (k':=k+2) a1 a2 (by decide) (fun _=>hs.2 _ (by simp)) ?_ (by omega),if_neg (by decide)]
  ·rfl
  ·unfold XbM
   rw [if_neg (by decide),if_neg (by decide),if_neg (by decide),if_pos rfl,Xd1 b1 b2 h3]
   simp only [Except.map,b2]
 ·refine ⟨seen,hs.drop,?_⟩
  rw [h1,h2]
  obtain ⟨h5,h6⟩:=hj
  cases j
  cases h5
  cases h6
  rfl
theorem Xpf {name:Tok} {j g:JF} {seen:List (List UInt8)} (h:At ts k (Xjo g)) (hs:XlO seen [XcN,Xcy,Xeq,XgQ]) (hg:XgW g) :
  ∃seen',XlO seen' [XgQ]∧Xbf ts name k seen j=Xbf ts name (k+9) seen' { j with restart:=g.restart,base:=g.base,cap:=g.cap,stable:=g.stable,burst:=g.burst,window:=g.window }:=by
 obtain ⟨a1,a2,b1,b2,c1,c2,d1,d2,e1,e2,f1,f2,p1,p2,q1,q2,r1,r2,-⟩:=h
 have hs2:=hs.step (by decide)
 have hs3:=hs2.step (by decide)
 have hs4:=hs3.step (by decide)
 have hbn:XgX g.burst:=⟨by have:=hg.burst.1;omega,by have:=hg.burst.2;omega⟩
 refine ⟨_,hs4,?_⟩
 rw [Xdd (j':={ j with restart:=g.restart }) (k':=k+2) a1 a2 (by decide) (fun _=>hs.2 _ (by simp)) ?_ (by omega),if_neg (by decide),
  Xdd (j':={ j with restart:=g.restart,base:=g.base,cap:=g.cap,stable:=g.stable }) (k':=k+2+4) c1 c2 (by decide) (fun _=>hs2.2 _ (by simp)) ?_ (by omega),if_neg (by decide),
  Xdd (j':={ j with restart:=g.restart,base:=g.base,cap:=g.cap,stable:=g.stable,burst:=g.burst,window:=g.window }) (k':=k+9) p1 p2 (by decide) (fun _=>hs3.2 _ (by simp)) ?_ (by omega),if_neg (by decide)]
 ·unfold XbM
  rw [if_neg (by decide),if_neg (by decide),if_neg (by decide),if_neg (by decide),if_neg (by decide),if_neg (by decide),if_pos rfl,Xhn hbn q1 q2]
  simp only [bind,Except.bind]
  rw [if_neg (by have:=hg.burst;omega),Xhn hg.window r1 r2]
 ·unfold XbM
  rw [if_neg (by decide),if_neg (by decide),if_neg (by decide),if_neg (by decide),if_neg (by decide),if_pos rfl,Xhn hg.base d1 d2]
  simp only [bind,Except.bind]
  rw [Xhn hg.cap e1 e2]
  simp only
  rw [Xhn hg.stable f1 f2]
 ·unfold XbM
  rw [if_neg (by decide),if_neg (by decide),if_neg (by decide),if_neg (by decide),if_pos rfl]
  have e:Xiq ts (k+1)=.ok g.restart:=by
   unfold Xiq
   have hle:(XdD g.restart).length≤8192:=by rcases hg.restart with h|h|h<;>rw [h]<;>decide
   rw [Xd1 b1 b2 hle]
   simp only [bind,Except.bind,b2]
   rcases hg.restart with h|h|h<;>rw [h]<;>rfl
  rw [e];rfl
theorem Xpg {name:Tok} {j:JF} {seen:List (List UInt8)} {l:List (Int × Int)} (h:At ts k (XmS l++[(5,[125])])) (hs:XlO seen [XgQ]) (hne:l≠[]) (hw:∀y∈l,(y.1=1∨y.1=2∨y.1=3∨y.1=10∨y.1=12∨y.1=15)∧XgX y.2) (hl:l.length≤5) :
  Xbf ts name k seen j=.ok ({ j with ladder:=l },k+(XmS l).length+1):=by
 rw [XeJ] at h
 obtain ⟨h,c1,c2,-⟩:=h
 cases l with
 | nil=>exact absurd rfl hne
 | cons x r=>
   obtain ⟨a1,a2,h2⟩:=h
   have hlen:(XmS (x :: r)).length=3+3*r.length:=by simp only [XmS,Xjv,Xu8,Xvh,Xvb,Xhs];omega
   rw [hlen] at c1 c2 ⊢
   have e:k+(3+3*r.length)=k+1+2+3*r.length:=by omega
   rw [e] at c1 c2 ⊢
   rw [Xdd (j':={ j with ladder:=x :: r }) (k':=k+1+2+3*r.length) a1 a2 (by decide) (fun _=>hs.2 _ (by simp)) ?_ (by omega),if_neg (by decide),Xoe (Xp0 c1 c2) (List.mem_append_left _ hs.1)]
   unfold XbM
   rw [if_neg (by decide),if_neg (by decide),if_neg (by decide),if_neg (by decide),if_neg (by decide),if_neg (by decide),if_neg (by decide),Xht r x (k+1) [] h2 (Xp1 (by rw [c2];decide)) hw hl]
   rfl
theorem Xp4 (j:JF) (h:XgW j) (hA:At ts k (Xg2 j)):∃l c,Xip ts k false=.ok ({ j with line:=l,col:=c },k+(Xg2 j).length):=by
 have e2:Xg2 j=XiZ j++(Xmc j.env++(Xew j.needs++(Xdy j++(Xjo j++(XmS j.ladder++[(5,[125])]))))):=by simp [Xg2]
 rw [e2,XeJ,XeJ,XeJ,XeJ,XeJ] at hA
 obtain ⟨⟨a1,a2,b1,b2,c1,c2,h1⟩,h2,h3,h4,h5,h6⟩:=hA
 refine ⟨(tkA ts (k+1)).line,(tkA ts (k+1)).col,?_⟩
 have s0:Xip ts k false=Xbf ts (tkA ts (k+1)) (k+3) [] (Xg1 (tkA ts (k+1))):=by
  unfold Xip
  rw [Xd1 a1 a2 (by decide)]
  simp only [bind,Except.bind]
  rw [if_neg (by rw [a2];exact fun e=>e rfl),Xkv h.name.2 rfl b1 b2]
  simp only
  rw [show k+2=k+1+1 from rfl,Xpb c1 c2]
 have s1:=XqQ (name:=tkA ts (k+1)) (j:=Xg1 (tkA ts (k+1))) h1 h.run
 have hh:(XiZ j).length=5:=rfl
 rw [hh] at h2 h3 h4 h5 h6
 have s2:=XiR (name:=tkA ts (k+1)) (seen:=[XlK]) j.env (k+5) { Xg1 (tkA ts (k+1)) with run:=j.run } h2 (fun p hp=>(h.enve p hp).2) h.envd h.env
 have hend:gIs ts (k+5+(Xmc j.env).length+(Xew j.needs).length) [44]=false:=by
  have:At ts (k+5+(Xmc j.env).length+(Xew j.needs).length) (Xdy j++Xjo j):=XeJ.2 ⟨h4,h5⟩
  refine Xty ?_
  unfold Xdy at this
  cases hr:j.hasr with
  | true=>rw [hr] at this;rw [this.1];decide
  | false=>rw [hr] at this;rw [this.1];decide
 obtain ⟨seen1,w1,s3⟩:=Xpe (name:=tkA ts (k+1)) (j:={ Xg1 (tkA ts (k+1)) with run:=j.run,env:=j.env }) (seen:=[XlK]) h3 ⟨by simp,by decide⟩ rfl hend (fun y hy=>(h.neede y hy).2) h.needd h.needs
 obtain ⟨seen2,w2,s4⟩:=XmM (name:=tkA ts (k+1)) (j:={ Xg1 (tkA ts (k+1)) with run:=j.run,env:=j.env,needs:=j.needs }) (g:=j) h4 w1 ⟨rfl,rfl⟩ h.ready
 obtain ⟨seen3,w3,s5⟩:=Xpf (name:=tkA ts (k+1)) (j:={ Xg1 (tkA ts (k+1)) with run:=j.run,env:=j.env,needs:=j.needs,hasr:=j.hasr,ready:=j.ready }) h5 w2 h
 have s6:=Xpg (name:=tkA ts (k+1)) (j:={ Xg1 (tkA ts (k+1)) with run:=j.run,env:=j.env,needs:=j.needs,hasr:=j.hasr,ready:=j.ready,restart:=j.restart,base:=j.base,cap:=j.cap,stable:=j.stable,burst:=j.burst,window:=j.window }) h6 w3 h.ladder.1 h.laddere h.ladder.2
 rw [s0,s1]
 refine s2.trans (s3.trans (s4.trans (s5.trans (s6.trans ?_))))
 have hK:k+(Xg2 j).length=k+5+(Xmc j.env).length+(Xew j.needs).length+(Xdy j).length+(Xjo j).length+(XmS j.ladder).length+1:=by
  rw [e2]
  simp only [Xvh,hh,Xu8,Xvb];omega
 rw [hK]
 simp only [Xg1,b2]
theorem Xi2:∀(l:List JF) (k:Nat) (out:List JF),(∀j∈l,XgW j)→At ts k (l.flatMap Xg2++[(6,[])])→(out++l).length≤32→∃l',RL l l'∧XdV ts k out=.ok (out++l')
 | [],k,out,_,h,_=>⟨[],trivial,by rw [XdV,if_pos h.1,List.append_nil]⟩
 | j :: l,k,out,hg,h,hl=>by
   rw [List.flatMap_cons,List.append_assoc,XeJ] at h
   obtain ⟨h1,h2⟩:=h
   obtain ⟨a,b,hj⟩:=Xp4 j (hg j (by simp)) h1
   have hk:(tkA ts k).kind=1:=by
    have:Xg2 j=(1,XsV) :: (Xg2 j).tail:=by simp [Xg2,XiZ]
    rw [this] at h1;exact h1.1
   have h0:0 < (Xg2 j).length:=by simp [Xg2,XiZ]
   obtain ⟨l',r1,r2⟩:=Xi2 l (k+(Xg2 j).length) (out++[{ j with line:=a,col:=b }]) (fun q hq=>hg q (by simp [hq])) h2 (by simpa using hl)
   refine ⟨{ j with line:=a,col:=b } :: l',⟨⟨a,b,rfl⟩,r1⟩,?_⟩
   rw [XdV,if_neg (by rw [hk];decide),show decide (32≤out.length)=false from decide_eq_false (by simp at hl;omega),hj]
   simp only
   rw [dif_pos ⟨by omega,XlI (by rw [hk];decide)⟩,r2]
   simp
end
theorem Xpm (l:List JF) (hg:∀j∈l,XgW j) (hn:l.length≤32) (ht:(l.flatMap Xg2).length≤2000) (hb:(l.flatMap Xe1).length≤8192):∃l',RL l l'∧Xdu (l.flatMap Xe1)=.ok l':=by
 obtain ⟨ts,h1,h2⟩:=Xhq l hg (1,1) 0 [] trivial (by omega)
 rw [List.append_nil,XcR _ _ [] (by rw [XgJ];rfl)] at h2
 unfold Xdu lex
 rw [if_neg (by omega),h2]
 simp only [Except.map]
 have hk:∀e:Tok,e.kind=6→e.text=[]→kts (ts++[e])=l.flatMap Xg2++[(6,[])]:=fun e h6 ht=>by
  simp only [kts,List.map_append] at h1 ⊢
  rw [h1];simp [h6,ht]
 obtain ⟨l',r1,r2⟩:=Xi2 (ts:=ts++[⟨6,[],(plc (plc (1,1) (l.flatMap Xe1)) []).1,(plc (plc (1,1) (l.flatMap Xe1)) []).2⟩]) l 0 [] hg (Xs1 [] rfl _ (hk _ rfl rfl) rfl) (by simpa using hn)
 exact ⟨l',r1,r2⟩
end Go.Proofs.YtdpobjakdplljaaGreatDoor
