import Derived.Test.YtdpobjakdplljaaGreatDoorV25
import Derived.Test.YtdpobjakdplljaaGreatDoorV6
import Derived.Test.YtdpobjakdplljaaGreatDoorV13
import Derived.Test.YtdpobjakdplljaaGreatDoorV14
/- The reference's parser, exact: a job. -/
set_option linter.unusedSimpArgs false
set_option linter.unusedVariables false
set_option maxRecDepth 100000
set_option maxHeartbeats 8000000
namespace Go.Proofs.YtdpobjakdplljaaGreatDoor
open Go.RowKit
theorem XcC (k:Nat):(k:Int)+1=((k+1:Nat):Int):=rfl
def JF.zero:JF:=⟨[],[],[],[],false,[],0,0,0,0,0,0,[],0,0⟩
def Xh3 (l:List (List UInt8)):List (List UInt8):=l.filter fun w=>w != Xil
theorem Xmt (l:List (List UInt8)) (w:List UInt8):Xh3 (l++[w])=if w=Xil then Xh3 l else Xh3 l++[w]:=by
 unfold Xh3
 rw [List.filter_append]
 by_cases h:w=Xil
 ·rw [if_pos h];simp [h]
 ·rw [if_neg h];simp [h]
theorem Xe4 (l:List (List UInt8)) (w:List UInt8) (h:w≠Xil):(Xh3 l).contains w=decide (w∈l):=by
 rw [Bool.eq_iff_iff]
 simp [Xh3,h]
def XhX (ts:List Tok) (k:Nat):Except Flt (Unit × Nat):=if (tkA ts k).kind=1∧(tkA ts k).text=XsV then .ok ((),k+1) else .error (flt 60 (tkA ts k))
def Xqg (full:Bool) (t:Tok):Except Flt Unit:=if full then .error (flt 1 t) else .ok ()
def Xpw (ts:List Tok):Prop:=∀t∈ts,t.text.length≤8192
theorem Xn7 {ts:List Tok} (hS:Xpw ts) {k:Nat} (hk:k < ts.length) (full:Bool):Xip ts k full=XhX ts k >>= fun p=>((Xbd ts p.2 1 32).map fun t=>(t,p.2+1)) >>= fun q=>((Xqg full q.1).map fun u=>(u,q.2)) >>= fun r=>((Xb2 ts r.2 [123]).map fun u=>(u,r.2+1)) >>= fun s=>Xbf ts q.1 s.2 [] (Xg1 q.1):=by
 have h8:=hS ts[k] (List.getElem_mem hk)
 unfold Xip XhX
 have e:Xbd ts k 1 8192=if (tkA ts k).kind≠1 then .error (flt 60 (tkA ts k)) else .ok (tkA ts k):=by
  unfold Xbd
  rw [Xbj hk,if_neg (show ¬8192 < ts[k].text.length by omega)]
 rw [e]
 by_cases h1:(tkA ts k).kind=1
 ·rw [if_neg (fun h=>h h1)]
  simp only [bind,Except.bind]
  by_cases h2:(tkA ts k).text=XsV
  ·rw [if_neg (fun h=>h h2),if_pos ⟨h1,h2⟩]
   simp only [Xej,Xqg,bind,Except.bind]
   cases h3:Xbd ts (k+1) 1 32 with
   | error f=>rfl
   | ok t=>
     simp only [Except.map]
     cases full with
     | true=>rfl
     | false=>
       simp only [Bool.false_eq_true,if_false]
       cases h4:Xb2 ts (k+2) [123]<;>simp [h4]
  ·rw [if_pos h2,if_neg (fun h=>h2 h.2)]
 ·rw [if_pos h1,if_neg (fun h=>h1 h.1)]
  rfl
theorem Xhh {ts:List Tok} {name:Tok} {k:Nat} {seen:List (List UInt8)} {j:JF} (h:gIs ts k [125]=true):Xbf ts name k seen j=(if seen.contains XlK then .ok ((),k) else .error (flt 6 name):Except Flt (Unit × Nat)) >>= fun p=>((Xb2 ts p.2 [125]).map fun u=>(u,p.2+1)).map fun q=>(j,q.2):=by
 rw [Xbf,if_pos h]
 cases seen.contains XlK with
 | true=>simp [bind,Except.bind,Except.map,Xb2,h]
 | false=>rfl
theorem Xml {ts:List Tok} {name:Tok} {k:Nat} {seen:List (List UInt8)} {j:JF} (h:gIs ts k [125]=false) (h2:(tkA ts k).kind≠1∨¬(tkA ts k).text∈items):Xbf ts name k seen j=.error (flt 60 (tkA ts k)):=by
 rw [Xbf,if_neg (by rw [h];decide),if_pos (by simpa using h2)]
theorem Xmm {ts:List Tok} {name:Tok} {k:Nat} {seen:List (List UInt8)} {j:JF} (h:gIs ts k [125]=false) (h2:(tkA ts k).kind=1) (h3:(tkA ts k).text∈items) (h4:(tkA ts k).text≠Xil) (h5:seen.contains (tkA ts k).text=true):Xbf ts name k seen j=.error (flt 5 (tkA ts k)):=by
 rw [Xbf,if_neg (by rw [h];decide),if_neg (by simp [h2,h3]),if_pos ⟨h4,h5⟩]
theorem Xkl {ts:List Tok} {name:Tok} {k:Nat} {seen:List (List UInt8)} {j:JF} (h:gIs ts k [125]=false) (h2:(tkA ts k).kind=1) (h3:(tkA ts k).text∈items) (h4:¬((tkA ts k).text≠Xil∧seen.contains (tkA ts k).text=true)):Xbf ts name k seen j=XbM ts (k+1) (tkA ts k).text j >>= fun x=>if k < x.2∧k < ts.length then Xbf ts name x.2 (if (tkA ts k).text=Xil then seen else seen++[(tkA ts k).text]) x.1 else .error (flt 60 (tkA ts k)):=by
 rw [Xbf,if_neg (by rw [h];decide),if_neg (by simp [h2,h3]),if_neg h4]
 cases XbM ts (k+1) (tkA ts k).text j with
 | error f=>rfl
 | ok x=>simp only [bind,Except.bind];split<;>rfl
theorem Xuw (ts:List Tok) (k:Nat) (l c:Int) (sv:AV) (hk:k < ts.length) (hl:ts.length≤1000000):Xa8 Tryz.prog 201 [] [.at_ (pc ts k 0 l c sv),.x (.int .i64 1),.x (.string (bs [106,111,98]))] (fun r H'=>r=.x (.bool (ts[k].kind == 1 && ts[k].text == [106,111,98]))∧H'=[]):=by
 have h:=Xuy ts k 0 l c sv 1 [106,111,98] hk hl
 simp only [isP,List.getElem?_eq_getElem hk] at h
 exact h
theorem Xog {ts:List Tok} (hS:Xpw ts) {k:Nat} (hk:k < ts.length) {full:Bool} {l c:Int} {s1 s2 s3 s4:PS} {t:Tok} {j:JF} (hh:ts[k].kind=1∧ts[k].text=XsV) (g1:Got ts ⟨k+1,0,l,c⟩ ((Xbd ts (k+1) 1 32).map fun t=>(t,k+1+1)) s1 t) (g2:Got ts s1 ((Xqg full t).map fun u=>(u,s1.k)) s2 ()) (g3:Got ts s2 ((Xb2 ts s2.k [123]).map fun u=>(u,s2.k+1)) s3 ()) (g4:Got ts s3 (Xbf ts t s3.k [] (Xg1 t)) s4 j):Got ts ⟨k,0,l,c⟩ (Xip ts k full) s4 j:=by
 refine Got.of ?_ (Xn7 hS hk full)
 unfold XhX
 rw [Xbj hk,if_pos hh]
 refine Got.step (k2:=k+1) ?_ rfl (Nat.le_succ _)
 refine (Got.bind (y:=fun t q=>((Xqg full t).map fun u=>(u,q)) >>= fun r=>((Xb2 ts r.2 [123]).map fun u=>(u,r.2+1)) >>= fun s=>Xbf ts t s.2 [] (Xg1 t)) g1 ?_).of rfl
 refine Got.bind (y:=fun _ q=>((Xb2 ts q [123]).map fun u=>(u,q+1)) >>= fun s=>Xbf ts t s.2 [] (Xg1 t)) g2 ?_
 exact Got.bind (y:=fun _ q=>Xbf ts t q [] (Xg1 t)) g3 g4
theorem Got.off {α β:Type} {ts:List Tok} {s s':PS} {x:Except Flt (α × Nat)} {y:Except Flt (β × Nat)} {v:α} {w:β} (h:Got ts s x s' v) (hb:s.e≠0):Got ts s y s' w:=⟨h.1,h.2.1,h.2.2.1,fun e=>absurd e hb⟩
theorem Got.flt {α β:Type} {ts:List Tok} {s s':PS} {f:Flt} {v:α} {w:β} (h:Got ts s (.error f:Except Flt (α × Nat)) s' v):Got ts s (.error f:Except Flt (β × Nat)) s' w:=h
theorem XeG:XkU=items:=rfl
theorem XtO (bp:Nat) (ts:List Tok) (k:Nat) (l c:Int) (sv:AV) (hsv:sv.one=true) (n:Nat) (hk:k < ts.length) (hl:ts.length≤1000000) (hv:VT ts) (hN:XeL ts) (hS:Xpw ts) :
  Xa8 Tryz.prog 188 [.box bp (pc ts k 0 l c sv)] [.x (.pointer (some ⟨bp,0,none⟩)),.x (.int .i64 n)] (fun r H'=>∃j k' e' l' c' sv',r=.agg (JF.cells j)∧H'=[.box bp (pc ts k' e' l' c' sv')]∧sv'.one=true∧k' < ts.length∧Got ts ⟨k,0,l,c⟩ (Xip ts k (decide (32≤n))) ⟨k',e',l',c'⟩ j∧JB j k'∧(e'=0→k < k')):=by
 have hN':=Lib.hid hN
 have hS':=Lib.hid hS
 clear hN hS
 have hn:=Xkx ts k 0 l c sv hk hl
 have hi:=Xuw ts k l c sv hk hl
 unfold Tok.av at hn
 simp only [pc]
 refine XaE Tryz.func188 rfl ?_
 simp only [Tryz.ntmps188,Xu8,Xvb,Xvc,Xvd,Xvg,Xvf,Nat.reduceAdd,Nat.reduceSub]
 (repeat' (first|with_reducible (first|refine Xai ?_|refine Xac ?_|refine Xas ?_|refine Xaw ?_|refine Xae ?_|refine Xaa ?_|refine Xay ?_)|(refine Xal _ rfl (fun h=>?_) (fun h=>?_)<;>((try (simp only [whn] at h));skip))|((apply Xad rfl);(case h=>(first|(apply Xab 0 rfl;(exact Xar _ rfl))|(apply Xab 4 rfl;(exact Xbk _ rfl (by first|exact .inl ⟨_,rfl⟩|fail)))|(apply Xab 5 rfl;(exact Xam _ _ _ _ _ _ rfl rfl Xa3.out))|(apply Xab 6 rfl;(exact Xaz _ _ _ _ _ _ _ _ rfl rfl XaU.out XaM.out (by first|exact Xu4 rfl|fail) (by first|exact Xu4 rfl|fail)))|(apply Xab 10 rfl;(exact XaY _ _ _ _ _ rfl HPl.out (by first|rfl|fail) rfl))|(apply Xab 11 rfl;(first|exact Xa7 187 Tryz.f187 _ _ rfl rfl Tryz.func187 (by decide) rfl (by (repeat' (first|exact VwL.nil|(refine VwL.cons ?_ ?_)|exact Vw.box (List.Mem.tail _ (List.Mem.head _)) (VwL.refl _ _)|fail));done) (hn)|exact Xa7 201 Tryz.f201 _ _ rfl rfl Tryz.func201 (by decide) rfl (by (repeat' (first|exact VwL.nil|(refine VwL.cons ?_ ?_)|exact Vw.refl _|exact Vw.box (List.Mem.tail _ (List.Mem.head _)) (VwL.refl _ _)|fail));done) (hi)))|(apply XaD;(case hs=>(intro _ _ h;cases h));(case hx=>rfl);(case hrun=>(intro w;simp [wtb,AV.val,go_sem];(try go_bits);rfl)))));(case hT=>((try simp (disch:=omega) only [wtn,pc,Tok.av,XcC,Xu9,Xu6,Xu7,Xva,Xve,Nat.reduceAdd,Nat.reduceMul,Nat.reduceSub,↓reduceIte,Nat.reduceEqDiff]);rfl)))|(refine Xah rfl ?_;((first|(refine Xaq 11 rfl ?_;(refine Xak 202 Tryz.f202 [_] _ _ _ rfl rfl Tryz.func202 (by decide) rfl (Xvi (l₁:=[_])) (VwL.refl _ _) (XfH _ ts k 0 _ _ sv hsv _ (by decide) ts[k] hk) ?_;rintro _ _ ⟨e2,l2,c2,rfl,rfl,hz2,g2⟩))|(refine Xaq 14 rfl ?_;(refine XaJ _ _ rfl Xbl.out rfl (fun b=>?_)))|(refine Xaq 16 rfl ?_;(refine Xau _ _ _ _ _ _ _ rfl rfl XaU.out XaS.out (by first|rfl|fail) (by first|exact Xu4 rfl|fail) ?_)));apply Xag;(case hT=>((try simp (disch:=omega) only [wtn,pc,Tok.av,XcC,Xu9,Xu6,Xu7,Xva,Xve,Nat.reduceAdd,Nat.reduceMul,Nat.reduceSub,↓reduceIte,Nat.reduceEqDiff]);rfl));(case hH=>((try simp (disch:=omega) only [wtn,pc,Tok.av,XcC,Xu9,Xu6,Xu7,Xva,Xve,Nat.reduceAdd,Nat.reduceMul,Nat.reduceSub,↓reduceIte,Nat.reduceEqDiff]);rfl))))|fail))
 ·refine Xaf _ _ (Xbi rfl (RV.cell 1 rfl rfl XaM.out (by simp) (by simp)) (XaH.mk' [_] [_] (List.Perm.swap _ _ _) (XaB.refl _ _) (VwL.cons (Vw.aggx (by (repeat' (first|exact VwL.nil|(refine VwL.cons ?_ ?_)|exact Vw.refl _|exact Vw.nil|fail)))) VwL.nil))) ⟨JF.zero,k,e2,l2,c2,sv,rfl,rfl,hsv,hk,?_,⟨Nat.zero_le _,Nat.zero_le _,Nat.zero_le _⟩,fun h0=>absurd h0 hz2⟩
  refine Got.of ?_ (Xn7 hS'.out hk _)
  unfold XhX
  rw [Xbj hk,if_neg (fun hq=>by rcases h with h|h;exact h hq.1;exact h hq.2)]
  exact (Got.bind (y:=fun _ _=>.error (flt 60 ts[k])) g2 (Got.bad hk hz2 _ JF.zero)).of rfl
 ·have hkk:=hv k hk (by omega)
  (repeat' (first|with_reducible (first|refine Xai ?_|refine Xac ?_|refine Xat ?_|refine Xaw ?_|refine Xae ?_|refine Xaa ?_)|(refine Xal _ rfl (fun h=>?_) (fun h=>?_)<;>((try (simp only [whn] at h));skip))|((first|apply Xad rfl|apply Xbe _ _ rfl rfl rfl);(case h=>((try (intro (hp:(_:Bool)=true);((try simp only [hp]);(try simp only [whn] at hp))));(first|(apply Xab 0 rfl;(exact Xar _ rfl))|(apply Xab 1 rfl;(exact XbH _ _ _ _ _ rfl rfl rfl rfl))|(apply Xab 4 rfl;(exact Xbk _ rfl (by first|exact .inl ⟨_,rfl⟩|fail)))|(apply Xab 5 rfl;(exact Xam _ _ _ _ _ _ rfl rfl Xa3.out))|(apply Xab 6 rfl;(exact Xaz _ _ _ _ _ _ _ _ rfl rfl XaU.out XaM.out (by first|exact Xu4 rfl|fail) (by first|exact Xu4 rfl|fail)))|(apply Xab 10 rfl;(exact XcY _ _ _ _ rfl HPl.out (by decide) rfl (by simp [wtb,AV.one,Value.oneCell'])))|(apply Xab 11 rfl;(exact Xa7 189 Tryz.f189 _ _ rfl rfl Tryz.func189 (by decide) rfl (by (repeat' (first|exact VwL.nil|(refine VwL.cons ?_ ?_)|exact Vw.box (List.Mem.tail _ (List.Mem.head _)) (VwL.refl _ _)|fail));done) (Xb7 ts _ _ _ _ sv)))|(apply XaD;(case hs=>(intro _ _ h;cases h));(case hx=>rfl);(case hrun=>(intro w;simp [wtb,AV.val,go_sem];skip;rfl))))));(case hT=>((try simp (disch:=omega) only [wtn,pc,Tok.av,XcC,Xu9,Xu6,Xu7,Xva,Xve,Nat.reduceAdd,Nat.reduceMul,Nat.reduceSub,↓reduceIte,Nat.reduceEqDiff]);rfl)))|(refine Xah rfl ?_;((first|(refine Xaq 11 rfl ?_;(first|(refine Xak 203 Tryz.f203 [_] _ _ _ rfl rfl Tryz.func203 (by decide) rfl (Xvi (l₁:=[_])) (VwL.refl _ _) (Xhz _ ts (k+1) 0 _ _ sv hsv 1 32 hkk hl hv (by decide)) ?_;rintro _ _ ⟨k1,e1,l1,c1,rfl,rfl,q1,g1⟩)|(refine Xak 202 Tryz.f202 [_] _ _ _ rfl rfl Tryz.func202 (by decide) rfl (Xvi (l₁:=[_])) (VwL.refl _ _) (XfH _ ts k1 _ _ _ sv hsv _ (by decide) ts[k+1] q1) ?_;rintro _ _ ⟨e2,l2,c2,rfl,rfl,hz2,g2⟩)|(refine Xak 204 Tryz.f204 [_] _ _ _ rfl rfl Tryz.func204 (by decide) rfl (Xvi (l₁:=[_,_])) (VwL.refl _ _) (XlC _ ts k1 _ _ _ sv hsv [123] q1 hl hv) ?_;rintro _ _ ⟨k3,e3,l3,c3,rfl,rfl,q3,g3⟩)|(refine Xak 204 Tryz.f204 [_] _ _ _ rfl rfl Tryz.func204 (by decide) rfl (Xvi (l₁:=[_,_,_])) (VwL.refl _ _) (XlC _ ts k1 _ _ _ sv hsv [123] q1 hl hv) ?_;rintro _ _ ⟨k3,e3,l3,c3,rfl,rfl,q3,g3⟩)))|(refine Xaq 14 rfl ?_;(refine XaJ _ _ rfl Xbl.out rfl (fun b=>?_)))|(refine Xaq 16 rfl ?_;(refine Xau _ _ _ _ _ _ _ rfl rfl XaU.out XaS.out (by first|rfl|fail) (by first|exact Xu4 rfl|fail) ?_))|(refine Xaq 17 rfl ?_;(refine XaF _ _ _ _ _ _ _ _ rfl XaZ.out (by first|rfl|fail) rfl (by decide) rfl (fun b=>?_))));apply Xag;(case hT=>((try simp (disch:=omega) only [wtn,pc,Tok.av,XcC,Xu9,Xu6,Xu7,Xva,Xve,Nat.reduceAdd,Nat.reduceMul,Nat.reduceSub,↓reduceIte,Nat.reduceEqDiff]);rfl));(case hH=>((try simp (disch:=omega) only [wtn,pc,Tok.av,XcC,Xu9,Xu6,Xu7,Xva,Xve,Nat.reduceAdd,Nat.reduceMul,Nat.reduceSub,↓reduceIte,Nat.reduceEqDiff]);rfl))))|fail))
  all_goals
   rename_i ob hP tb lb
   obtain ⟨jb,rfl⟩:∃x,x=b:=⟨b,rfl⟩
   have hfin:∀s' v,Got ts ⟨k3,e3,l3,c3⟩ (Xbf ts ts[k+1] k3 [] (Xg1 ts[k+1])) s' v→Got ts ⟨k,0,l,c⟩ (Xip ts k (decide (32≤n))) s' v:=by
    intro s' v hg
    first
     | exact Xog hS'.out hk hP g1 (g2.of (by rw [decide_eq_true (by omega)];rfl)) g3 hg
     | (refine Xog hS'.out hk hP g1 ?_ g3 hg
        by_cases he:e1=0
        ·exact (Got.pure q1 ()).of (by rw [decide_eq_false (by omega)];rfl)
        ·exact Got.bad q1 he _ _)
   have hfin':=Lib.hid hfin
   clear hfin
   have hk1:=g1.2.1
   have hk3:=g3.2.1
   simp only at hk1 hk3
   refine Xbw 9 1 ?_
   apply XaW (S:=Nat × Int × Int × Int × JF × List (List UInt8) × Option Addr × Nat) (fun s=>frm 128 [(0,.x (.pointer (some ⟨bp,0,none⟩))),(4,.x (.pointer (some ⟨ob,0,none⟩))),(5,.x (.pointer (some ⟨tb,0,none⟩))),(6,.x (.pointer (some ⟨jb,0,none⟩)))])
    (fun s=>[.box bp (pc ts s.1 s.2.1 s.2.2.1 s.2.2.2.1 (.x (.slice s.2.2.2.2.2.2.1 s.2.2.2.2.2.1.length s.2.2.2.2.2.2.2))),.row s.2.2.2.2.2.2.1 s.2.2.2.2.2.1.length s.2.2.2.2.2.2.2 9 1 (sa s.2.2.2.2.2.1),.box jb (JF.cells s.2.2.2.2.1),.box tb [.x (.int .i64 ts[k+1].kind),.x (.string (bs ts[k+1].text)),.x (.int .i64 (ts[k+1].line:Nat)),.x (.int .i64 (ts[k+1].col:Nat))],.box ob [.x (.string ⟨#[]⟩),.x (.string ⟨#[]⟩),.x (.slice none 0 0),.x (.slice none 0 0),.x (.bool false),.x (.string ⟨#[]⟩),.x (.int .i64 0),.x (.int .u64 0),.x (.int .u64 0),.x (.int .u64 0),.x (.int .i64 0),.x (.int .u64 0),.x (.slice none 0 0),.x (.int .i64 0),.x (.int .i64 0)]])
    (fun s=>k+1≤s.1∧s.1 < ts.length∧JB s.2.2.2.2.1 s.1∧s.2.2.2.2.2.1.length≤s.1∧∀s' v,Got ts ⟨s.1,s.2.1,s.2.2.1,s.2.2.2.1⟩ (Xbf ts ts[k+1] s.1 (Xh3 s.2.2.2.2.2.1) s.2.2.2.2.1) s' v→Got ts ⟨k,0,l,c⟩ (Xip ts k (decide (32≤n))) s' v) (fun s=>ts.length - s.1) (k3,e3,l3,c3,Xg1 ts[k+1],[],none,0)
   case h0=>exact XaH.mk' [.row (some ⟨lb,0,none⟩) 1 1 _ 2 _] [.box bp _,.row none 0 0 _ _ _,.box jb _,.box tb _,.box ob _] (by (repeat' (first|exact Xu5 _|refine (Xvi (l₁:=[_])).trans (Xvl _ ?_)|refine (Xvi (l₁:=[_,_,_])).trans (Xvl _ ?_)|fail))) (XaB.cons (VwH.refl _ _) (XaB.cons (VwH.refl _ _) (XaB.cons (VwH.box _ (by (repeat' (first|exact VwL.nil|apply VwL.cons|exact Vw.refl _|exact Vw.nil|exact Vw.row (List.Mem.head _) (VwL.refl _ _)|fail)))) (XaB.cons (VwH.refl _ _) (XaB.cons (VwH.refl _ _) XaB.nil))))) (by (repeat' (first|exact VwL.nil|(refine VwL.cons ?_ ?_)|exact Vw.refl _|exact Vw.top _|fail)))
   case hi=>exact ⟨by simp only;omega,q3,⟨by simp [Xg1],by simp [Xg1],by simp [Xg1];omega⟩,by simp,hfin'.out⟩
   rintro ⟨kk,ee,ll,cc,j,ns,ad,cap⟩ ⟨w1,w2,w3,w4,w5⟩
   simp only at w1 w2 w3 w4 w5
   have w6:=Lib.hid w5
   clear w5 hfin'
   simp only [frm,Xvc,Xvd,Xu6,Xu7,Xvj,Xvk]
   simp only [JF.cells]
   (repeat' (first|with_reducible (first|refine Xai ?_|refine Xac ?_|refine Xat ?_|refine Xas ?_|refine Xaw ?_|refine Xa4 ?_|refine Xae ?_|refine Xaa ?_|refine XaN ?_|refine Xay ?_|refine XaK ?_|refine Xax ?_)|(refine Xal _ rfl (fun h=>?_) (fun h=>?_)<;>((try (simp only [whn] at h));skip))|((first|apply Xad rfl|apply Xbe _ _ rfl rfl rfl);(case h=>((try (intro (hp:(_:Bool)=true);((try simp only [Bool.not_eq_true'] at hp);(try simp only [hp,wte]);(try simp only [whn] at hp))));(first|(apply Xab 0 rfl;(exact Xar _ rfl))|(apply Xab 1 rfl;(first|exact XbH _ _ _ _ _ rfl rfl rfl rfl|exact XeK _ _ _ _ _ rfl rfl rfl rfl))|(apply Xab 4 rfl;(exact Xbk _ rfl (by first|exact .inl ⟨_,rfl⟩|fail)))|(apply Xab 5 rfl;(exact Xam _ _ _ _ _ _ rfl rfl Xa3.out))|(apply Xab 6 rfl;(exact Xaz _ _ _ _ _ _ _ _ rfl rfl XaU.out XaM.out (by first|exact Xu4 rfl|fail) (by first|exact Xu4 rfl|fail)))|(apply Xab 11 rfl;(first|exact Xa7 189 Tryz.f189 _ _ rfl rfl Tryz.func189 (by decide) rfl (by (repeat' (first|exact VwL.nil|(refine VwL.cons ?_ ?_)|exact Vw.box (List.Mem.head _) (VwL.refl _ _)|fail));done) (Xb7 ts _ _ _ _ _)|exact Xa7 201 Tryz.f201 _ _ rfl rfl Tryz.func201 (by decide) rfl (by (repeat' (first|exact VwL.nil|(refine VwL.cons ?_ ?_)|exact Vw.refl _|exact Vw.box (List.Mem.head _) (VwL.refl _ _)|fail));done) (Xux ts kk _ _ _ _ [125] w2 hl)|exact Xa7 187 Tryz.f187 _ _ rfl rfl Tryz.func187 (by decide) rfl (by (repeat' (first|exact VwL.nil|(refine VwL.cons ?_ ?_)|exact Vw.box (List.Mem.head _) (VwL.refl _ _)|fail));done) (Xkx ts kk _ _ _ _ w2 hl)|exact XaA 205 Tryz.f205 _ _ rfl rfl Tryz.func205 (by decide) rfl (VwL.refl _ _) (Xr2 _)|exact Xa7 206 Tryz.f206 _ _ rfl rfl Tryz.func206 (by decide) rfl (by (repeat' (first|exact VwL.nil|(refine VwL.cons ?_ ?_)|exact Vw.refl _|exact Vw.row (List.Mem.tail _ (List.Mem.head _)) (VwL.refl _ _)|fail));done) (Xly ns [114,117,110] (by omega))))|(apply XaD;(case hs=>(intro _ _ h;cases h));(case hx=>rfl);(case hrun=>(intro w;simp [wtb,AV.val,go_sem];skip;rfl))))));(case hT=>((try simp (disch:=omega) only [wtn,pc,Tok.av,XcC,Xu9,Xu6,Xu7,Xva,Xve,Nat.reduceAdd,Nat.reduceMul,Nat.reduceSub,↓reduceIte,Nat.reduceEqDiff]);rfl)))|(refine Xah rfl ?_;((first|(refine Xaq 11 rfl ?_;(first|(refine Xak 202 Tryz.f202 [_] _ _ _ rfl rfl Tryz.func202 (by decide) rfl (Xvi (l₁:=[_])) (VwL.refl _ _) (XfH _ ts kk _ _ _ _ rfl _ (by decide) ts[kk] w2) ?_;rintro _ _ ⟨e5,l5,c5,rfl,rfl,hz5,g5⟩)|(refine Xak 202 Tryz.f202 [_] _ _ _ rfl rfl Tryz.func202 (by decide) rfl (Xu5 _) (VwL.refl _ _) (XfH _ ts kk _ _ _ _ rfl _ (by decide) ts[k+1] w2) ?_;rintro _ _ ⟨e5,l5,c5,rfl,rfl,hz5,g5⟩)|(refine Xak 204 Tryz.f204 [_] _ _ _ rfl rfl Tryz.func204 (by decide) rfl (Xu5 _) (VwL.refl _ _) (XlC _ ts kk _ _ _ _ rfl [125] w2 hl hv) ?_;rintro _ _ ⟨k6,e6,l6,c6,rfl,rfl,q6,g6⟩)))|(refine Xaq 14 rfl ?_;(refine XaJ _ _ rfl Xbl.out rfl (fun b=>?_)))|(refine Xaq 16 rfl ?_;(refine Xau _ _ _ _ _ _ _ rfl rfl XaU.out XaS.out (by first|rfl|fail) (by first|exact Xu4 rfl|fail) ?_)));apply Xag;(case hT=>((try simp (disch:=omega) only [wtn,pc,Tok.av,XcC,Xu9,Xu6,Xu7,Xva,Xve,Nat.reduceAdd,Nat.reduceMul,Nat.reduceSub,↓reduceIte,Nat.reduceEqDiff]);rfl));(case hH=>((try simp (disch:=omega) only [wtn,pc,Tok.av,XcC,Xu9,Xu6,Xu7,Xva,Xve,Nat.reduceAdd,Nat.reduceMul,Nat.reduceSub,↓reduceIte,Nat.reduceEqDiff]);rfl))))|fail))
   ·have he:ee=0∧gIs ts kk [125]=false:=by assumption
    refine Xaf _ _ ?_ ⟨j,kk,e5,l5,c5,.sq ns.length (sa ns),rfl,rfl,rfl,w2,w6.out _ _ (g5.flt.of ?_),w3,fun h0=>absurd h0 hz5⟩
    ·refine Xbi rfl (RV.cell 5 rfl rfl XaM.out (by simp) (by simp)) (XaH.mk' [_,_,_,_,_] [_] (Xvi (l₁:=[_,_,_,_,_]) (l₂:=[])).symm (XaB.cons (VwH.box _ (by (repeat' (first|exact VwL.nil|apply VwL.cons|exact Vw.refl _|exact Vw.row (List.Mem.tail _ (List.Mem.head _)) (VwL.refl _ _)|fail)))) XaB.nil) (VwL.refl _ _))
    ·rw [Xml he.2 (by rw [Xbj w2,←XeG];exact h),Xbj w2]
   ·have he:ee=0∧gIs ts kk [125]=false:=by assumption
    refine Xbc mixed ?_ ?_
    ·decide +kernel
    have hw0:=h
    (repeat' (first|with_reducible (first|refine Xai ?_|refine Xac ?_|refine Xas ?_|refine Xaw ?_|refine Xae ?_|refine Xcd ?_|refine Xaa ?_|refine Xay ?_|refine Xax ?_)|(refine Xal _ rfl (fun h=>?_) (fun h=>?_)<;>((try (simp only [whn] at h));skip))|((first|apply Xad rfl|apply XbG rfl|apply Xti _ _ rfl rfl rfl);(case h=>((try (intro (hp:(_:Bool)=true);((try simp only [Bool.not_eq_true'] at hp);(try simp only [hp,wte]);(try simp only [whn] at hp))));(first|(apply Xab 0 rfl;(exact Xar _ rfl))|(apply Xab 1 rfl;(exact XbH _ _ _ _ _ rfl rfl rfl rfl))|(apply Xab 4 rfl;(exact Xbk _ rfl (by first|exact .inl ⟨_,rfl⟩|fail)))|(apply Xab 5 rfl;(exact Xam _ _ _ _ _ _ rfl rfl Xa3.out))|(apply Xab 6 rfl;(exact Xaz _ _ _ _ _ _ _ _ rfl rfl XaU.out XaM.out (by first|exact Xu4 rfl|fail) (by first|exact Xu4 rfl|fail)))|(apply Xab 11 rfl;(exact Xa7 206 Tryz.f206 _ _ rfl rfl Tryz.func206 (by decide) rfl (by (repeat' (first|exact VwL.nil|(refine VwL.cons ?_ ?_)|exact Vw.refl _|exact Vw.row (List.Mem.tail _ (List.Mem.tail _ (List.Mem.head _))) (VwL.refl _ _)|fail));done) (Xly ns (ts[kk]'w2).text (by omega))))|(apply XaD;(case hs=>(intro _ _ h;cases h));(case hx=>rfl);(case hrun=>(intro w;simp [wtb,AV.val,go_sem];skip;rfl))))));(case hT=>((try simp (disch:=omega) only [wtn,pc,Tok.av,XcC,Xu9,Xu6,Xu7,Xva,Xve,Nat.reduceAdd,Nat.reduceMul,Nat.reduceSub,↓reduceIte,Nat.reduceEqDiff]);rfl)))|(refine Xah rfl ?_;((first|(refine Xaq 11 rfl ?_;(refine Xak 202 Tryz.f202 [_] _ _ _ rfl rfl Tryz.func202 (by decide) rfl (Xvi (l₁:=[_])) (VwL.refl _ _) (XfH _ ts kk _ _ _ _ rfl _ (by decide) ts[kk] w2) ?_;rintro _ _ ⟨e5,l5,c5,rfl,rfl,hz5,g5⟩))|(refine Xaq 16 rfl ?_;(refine Xau _ _ _ _ _ _ _ rfl rfl XaU.out XaS.out (by first|rfl|fail) (by first|exact Xu4 rfl|fail) ?_)));apply Xag;(case hT=>((try simp (disch:=omega) only [wtn,pc,Tok.av,XcC,Xu9,Xu6,Xu7,Xva,Xve,Nat.reduceAdd,Nat.reduceMul,Nat.reduceSub,↓reduceIte,Nat.reduceEqDiff]);rfl));(case hH=>((try simp (disch:=omega) only [wtn,pc,Tok.av,XcC,Xu9,Xu6,Xu7,Xva,Xve,Nat.reduceAdd,Nat.reduceMul,Nat.reduceSub,↓reduceIte,Nat.reduceEqDiff]);rfl))))|fail))
    ·refine Xaf _ _ ?_ ⟨j,kk,e5,l5,c5,.sq ns.length (sa ns),rfl,rfl,rfl,w2,w6.out _ _ (g5.flt.of ?_),w3,fun h0=>absurd h0 hz5⟩
     ·refine Xbi rfl (RV.cell 5 rfl rfl XaM.out (by simp) (by simp)) (XaH.mk' [_,_,_,_,_] [_] (Xvi (l₁:=[_,_,_,_,_]) (l₂:=[])).symm (XaB.cons (VwH.box _ (by (repeat' (first|exact VwL.nil|apply VwL.cons|exact Vw.refl _|exact Vw.row (List.Mem.tail _ (List.Mem.head _)) (VwL.refl _ _)|fail)))) XaB.nil) (VwL.refl _ _))
     ·rw [Xmm he.2 (by rw [Xbj w2];exact hw0.1) (by rw [Xbj w2,←XeG];exact hw0.2) (by rw [Xbj w2];exact h.1) (by rw [Xbj w2,Xe4 _ _ h.1];simpa using h.2),Xbj w2]
    ·have hkk2:=hv kk w2 (by omega)
     refine XbV mixed [11] [_,_] _ (Xu5 _) ?_
     (first|(apply XaC 0 rfl rfl (by kernel_rfl) (by intro c T H hp;simp [XaL,Xao,XaQ,Xbo] at hp);(case h=>(exact Xbb _ rfl)))|fail);(apply Xan;(case hT=>((try simp only [wtn]);rfl));(case hH=>rfl));(first|(apply XaC 1 rfl rfl (by kernel_rfl) (by intro c T H hp;simp [XaL,Xao,XaQ,Xbo] at hp);(case h=>(exact Xbb _ rfl)))|fail);(apply Xan;(case hT=>((try simp only [wtn]);rfl));(case hH=>rfl));(first|(apply XaC 2 rfl rfl (by kernel_rfl) (by intro c T H hp;simp [XaL,Xao,XaQ,Xbo] at hp);(case h=>(exact Xcf _ _ _ rfl rfl)))|fail);(apply Xan;(case hT=>((try simp only [wtn]);rfl));(case hH=>rfl));(first|(apply XaC 3 rfl rfl (by kernel_rfl) (by intro c T H hp;simp [XaL,Xao,XaQ,Xbo] at hp);(case h=>(exact XaR _ _ _ _ _ _ rfl rfl Xa3.out)))|fail);(apply Xan;(case hT=>((try simp only [wtn]);rfl));(case hH=>rfl));(first|refine Xba 4 rfl rfl (by kernel_rfl) (by intro c T H hp;simp [XaL,Xao,XaQ,Xbo] at hp) _ _ _ _ _ _ _ _ rfl rfl XaU.out XaM.out (by first|exact Xu4 rfl|fail) (by first|exact Xu4 rfl|fail) ?_|fail);(apply Xan;(case hT=>((try simp only [wtn]);rfl));(case hH=>rfl));(first|(apply XaC 5 rfl rfl (by kernel_rfl) (by intro c T H hp;simp [XaL,Xao,XaQ,Xbo] at hp);(case h=>(exact XaR _ _ _ _ _ _ rfl rfl Xa3.out)))|fail);(apply Xan;(case hT=>((try simp only [wtn]);rfl));(case hH=>rfl));(first|refine Xba 6 rfl rfl (by kernel_rfl) (by intro c T H hp;simp [XaL,Xao,XaQ,Xbo] at hp) _ _ _ _ _ _ _ _ rfl rfl XaU.out XaM.out (by first|exact Xu4 rfl|fail) (by first|exact Xu4 rfl|fail) ?_|fail);(apply Xan;(case hT=>((try simp only [wtn]);rfl));(case hH=>rfl))
     (refine Xbq 7 (by decide +kernel) rfl rfl ?_;(first|((refine Xaq 17 rfl ?_;(refine XaF _ _ _ _ _ _ _ _ rfl XaZ.out (by first|rfl|fail) rfl (by decide) rfl (fun b=>?_)));apply Xan;(case hT=>((try simp only [wtn]);rfl));(case hH=>((try simp only [wtn]);rfl)))|fail))
     (refine Xbq 8 (by decide +kernel) rfl rfl ?_;(first|((refine Xaq 13 rfl ?_;(refine XaP _ _ _ _ _ _ _ _ _ _ _ _ _ _ rfl rfl Xb9.out (Src.row _ rfl Xb9.out) XaZ.out (by first|rfl|fail) (Xei _ _ (by omega) (by decide)) (fun ad cap=>?_)));apply Xan;(case hT=>((try simp only [wtn]);rfl));(case hH=>((try simp only [wtn]);rfl)))|fail))
     (repeat ((first|refine Xbq 9 (by decide +kernel) rfl rfl ?_|refine Xbq 10 (by decide +kernel) rfl rfl ?_|fail);(first|(apply Xa9;(case h=>(first|(apply Xab 4 rfl;(exact Xbk _ rfl (by first|exact .inl ⟨_,rfl⟩|fail)))|(apply Xab 5 rfl;(exact Xam _ _ _ _ _ _ rfl rfl Xa3.out))));(apply Xan;(case hT=>((try simp only [wtn]);rfl));(case hH=>rfl)))|fail)))
     refine XbE (by decide +kernel) ?_
     refine Xav rfl (by simp only [Xvg,Xvf];rfl) ?_
     (refine Xbm 11 (by decide +kernel) rfl rfl ?_;(first|((refine Xaq 16 rfl ?_;(refine Xau _ _ _ _ _ _ _ rfl rfl XaU.out XaS.out (by first|rfl|fail) (by first|exact Xu4 rfl|fail) ?_));apply Xav;(case hT=>((try simp only [wtn]);rfl));(case hH=>((try simp only [wtn]);rfl)))|fail))
     refine Xa0 (by decide +kernel) ?_
     (repeat' (first|with_reducible (first|refine Xai ?_|refine Xac ?_|refine Xae ?_|refine Xaa ?_|refine Xaj ?_)|((apply Xad rfl);(case h=>(first|(apply Xab 0 rfl;(exact Xar _ rfl))|(apply Xab 4 rfl;(exact Xbk _ rfl (by first|exact .inl ⟨_,rfl⟩|fail)))|(apply Xab 5 rfl;(exact Xam _ _ _ _ _ _ rfl rfl Xa3.out))|(apply Xab 6 rfl;(exact Xaz _ _ _ _ _ _ _ _ rfl rfl XaU.out XaM.out (by first|exact Xu4 rfl|fail) (by first|exact Xu4 rfl|fail)))|(apply XaD;(case hs=>(intro _ _ h;cases h));(case hx=>rfl);(case hrun=>(intro w;simp [wtb,AV.val,go_sem];(try go_bits);rfl)))));(case hT=>((try simp (disch:=omega) only [wtn,pc,Tok.av,XcC,JF.cells,Xu9,Xu6,Xu7,Xva,Xve,Nat.reduceAdd,Nat.reduceMul,Nat.reduceSub,↓reduceIte,Nat.reduceEqDiff]);rfl)))|(refine Xah rfl ?_;((first|(refine Xaq 11 rfl ?_;(refine Xak 207 Tryz.f207 [_] _ _ _ rfl rfl Tryz.func207 (by decide) rfl (Xvi (l₁:=[_])) (VwL.refl _ _) (Xtz _ ts (kk+1) _ _ _ _ rfl j _ hkk2 hl hv hN'.out (w3.mono (by omega)) hw0.2) ?_;rintro _ _ ⟨k7,e7,l7,c7,j7,rfl,rfl,q7,g7,w7⟩))|(refine Xaq 16 rfl ?_;(refine Xau _ _ _ _ _ _ _ rfl rfl XaU.out XaS.out (by first|rfl|fail) (by first|exact Xu4 rfl|fail) ?_)));apply Xag;(case hT=>((try simp (disch:=omega) only [wtn,pc,Tok.av,XcC,JF.cells,Xu9,Xu6,Xu7,Xva,Xve,Nat.reduceAdd,Nat.reduceMul,Nat.reduceSub,↓reduceIte,Nat.reduceEqDiff]);rfl));(case hH=>((try simp (disch:=omega) only [wtn,pc,Tok.av,XcC,JF.cells,Xu9,Xu6,Xu7,Xva,Xve,Nat.reduceAdd,Nat.reduceMul,Nat.reduceSub,↓reduceIte,Nat.reduceEqDiff]);rfl))))|fail))
     have hq7:=g7.2.1
     simp only at hq7
     refine ⟨(k7,e7,l7,c7,j7,ns++[ts[kk].text],ad,cap),by simp only;omega,⟨by simp only;omega,q7,w7,by simp only [Xvh,Xu8,Xvb];omega,?_⟩,?_⟩
     ·intro s' v hg
      simp only [Xmt] at hg
      refine w6.out _ _ (((Got.bind (y:=fun j q=>if kk < q∧kk < ts.length then Xbf ts ts[k+1] q (if ts[kk].text=Xil then Xh3 ns else Xh3 ns++[ts[kk].text]) j else .error (flt 60 ts[kk])) g7 (hg.of (if_pos ⟨by simp only;omega,w2⟩))).step he.1 (Nat.le_succ _)).of ?_)
      rw [Xkl he.2 (by rw [Xbj w2];exact hw0.1) (by rw [Xbj w2,←XeG];exact hw0.2) ?_,Xbj w2]
      rw [Xbj w2]
      rintro ⟨ha,hb⟩
      rw [Xe4 _ _ ha] at hb
      rcases h with h|h
      ·exact ha h
      ·exact h (by simpa using hb)
     ·simp only [Xjw,Xvh,Xu8,Xvb]
      exact XaH.mk' [_,_] [.box bp _,.row ad _ cap _ _ _,.box jb _,.box tb _,.box ob _] (List.Perm.trans (l₂:=[.box bp _,.row ad _ cap _ _ _,.box jb _,.box tb _,.box ob _]++[_,_]) (by (repeat' (first|exact Xu5 _|refine Xvl _ ?_|refine (Xvi (l₁:=[_,_])).trans (Xvl _ ?_)|fail))) List.perm_append_comm) (XaB.refl _ _) (by (repeat' (first|exact VwL.nil|(refine VwL.cons ?_ ?_)|exact Vw.refl _|exact Vw.top _|fail)))
   all_goals
    have hx:¬ee=0∨gIs ts kk [125]=true:=by assumption
    have hq6:=g6.2.1
    simp only at hq6
   ·have hy:gIs ts kk [125]=true:=by rcases hx with hx|hx;exact absurd h.1 hx;exact hx
    refine Xaf _ _ ?_ ⟨j,k6,e6,l6,c6,.sq ns.length (sa ns),rfl,rfl,rfl,q6,w6.out _ _ ((Got.bind (y:=fun _ q=>((Xb2 ts q [125]).map fun u=>(u,q+1)).map fun q=>(j,q.2)) (g5.of (if_neg ?_)) (g6.val fun _=>j)).of (Xhh hy)),w3.mono hq6,fun _=>by omega⟩
    ·refine Xbi rfl (RV.cell 4 rfl rfl XaM.out (by simp) (by simp)) (XaH.mk' [_,_,_,_] [_] (Xvi (l₁:=[_,_,_,_]) (l₂:=[])).symm (XaB.cons (VwH.box _ (by (repeat' (first|exact VwL.nil|apply VwL.cons|exact Vw.refl _|exact Vw.row (List.Mem.head _) (VwL.refl _ _)|fail)))) XaB.nil) (VwL.refl _ _))
    ·rw [Xe4 _ _ (by decide)];exact fun hq=>h.2 (of_decide_eq_true hq)
   ·refine Xaf _ _ ?_ ⟨j,k6,e6,l6,c6,.sq ns.length (sa ns),rfl,rfl,rfl,q6,w6.out _ _ ?_,w3.mono hq6,fun _=>by omega⟩
    ·refine Xbi rfl (RV.cell 4 rfl rfl XaM.out (by simp) (by simp)) (XaH.mk' [_,_,_,_] [_] (Xvi (l₁:=[_,_,_,_]) (l₂:=[])).symm (XaB.cons (VwH.box _ (by (repeat' (first|exact VwL.nil|apply VwL.cons|exact Vw.refl _|exact Vw.row (List.Mem.head _) (VwL.refl _ _)|fail)))) XaB.nil) (VwL.refl _ _))
    ·by_cases he:ee=0
     ·have hy:gIs ts kk [125]=true:=by rcases hx with hx|hx;exact absurd he hx;exact hx
      refine (Got.bind (y:=fun _ q=>((Xb2 ts q [125]).map fun u=>(u,q+1)).map fun q=>(j,q.2)) ((Got.pure w2 ()).of (if_pos ?_)) (g6.val fun _=>j)).of (Xhh hy)
      rw [Xe4 _ _ (by decide)]
      rcases h with h|h
      ·exact absurd he h
      ·exact decide_eq_true h
     ·exact g6.off he
theorem Xi9:∀(n:Nat) (p:Nat × Nat) (i:Nat) (l:List UInt8),l.length≤n→i≤2000→(∀ts,Xce p i l=.ok ts→ts.length+i≤2001)∧∀f,Xce p i l=.error f→f.code≠0
 | n,p,i,l,hn,hi0=>by
   cases hd:l.drop (skp l) with
   | nil=>
     rw [XcR p i l hd]
     exact ⟨fun ts h=>(by cases h;simp;omega),fun f h=>by cases h⟩
   | cons c r=>
     have hlen:=congrArg List.length hd
     simp only [List.length_drop,Xu8] at hlen
     cases h1:one (c :: r) with
     | error e=>
       rw [Xdv p i l c r e hd h1]
       refine ⟨fun ts h=>(by cases h),fun f h=>?_⟩
       cases h
       have:=XoF h1
       simp only;omega
     | ok x=>
       by_cases hi:2000≤i
       ·rw [Xc1 p i l c r x hd h1 hi]
        exact ⟨fun ts h=>(by cases h),fun f h=>by cases h;simp⟩
       ·obtain ⟨a,t,m⟩:=x
        obtain ⟨g1,g2,g3,g4⟩:=XfK h1
        simp only at g1 g2 g3 g4
        rw [Xc6 p i l c r a t m hd h1 g1 (by omega)]
        cases n with
        | zero=>omega
        | succ n=>
          obtain ⟨h2,h3⟩:=Xi9 n (plc p (l.take (skp l+m))) (i+1) ((c :: r).drop m) (by simp only [List.length_drop,Xu8];omega) (by omega)
          cases hr:Xce (plc p (l.take (skp l+m))) (i+1) ((c :: r).drop m) with
          | error e=>exact ⟨fun ts h=>(by cases h),fun f h=>by cases h;exact h3 _ hr⟩
          | ok y=>
            refine ⟨fun ts h=>?_,fun f h=>by cases h⟩
            cases h
            have:=h2 y hr
            simp only [Xu8];omega
theorem XdW (l:List UInt8):(∀f,lex l=.error f→f.code≠0)∧∀ts,lex l=.ok ts→0 < ts.length∧ts.length≤2001∧VT ts∧(∀t∈ts,t.text.length≤1000000)∧l.length≤8192:=by
 unfold lex
 split
 ·exact ⟨fun f h=>(by cases h;simp),fun ts h=>by cases h⟩
 ·rename_i hl
  obtain ⟨h2,h3⟩:=Xi9 l.length (1,1) 0 l (Nat.le_refl _) (by omega)
  refine ⟨h3,fun ts h=>?_⟩
  have hc:=h2 ts h
  obtain ⟨qs,e,rfl,he,hq,ht⟩:=Xe3 l.length (1,1) 0 l ts (Nat.le_refl _) h
  refine ⟨by simp,by omega,fun k hk hne=>?_,fun t h=>(by have:=ht t h;omega),by omega⟩
  simp only [Xvh,Xu8,Xvb] at hk ⊢
  by_cases hlt:k < qs.length
  ·omega
  ·exfalso
   rw [List.getElem_append_right (by omega)] at hne
   simp at hne
   exact hne he
end Go.Proofs.YtdpobjakdplljaaGreatDoor
