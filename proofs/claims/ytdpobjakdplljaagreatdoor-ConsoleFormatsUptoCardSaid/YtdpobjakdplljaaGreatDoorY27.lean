import Derived.Test.YtdpobjakdplljaaGreatDoorY26
import Derived.Test.YtdpobjakdplljaaGreatDoorY6
import Derived.Test.YtdpobjakdplljaaGreatDoorY13
import Derived.Test.YtdpobjakdplljaaGreatDoorY14
/- The reference's parser, exact: a job. -/
set_option linter.unusedSimpArgs false
set_option linter.unusedVariables false
set_option maxRecDepth 100000
set_option maxHeartbeats 8000000
namespace Go.Proofs.YtdpobjakdplljaaGreatDoor
open Go.RowKit
theorem XcD (k:Nat):(k:Int)+1=((k+1:Nat):Int):=rfl
def JF.zero:JF:=⟨[],[],[],[],false,[],0,0,0,0,0,0,[],0,0⟩
def Xia (l:List (List UInt8)):List (List UInt8):=l.filter fun w=>w != Xis
theorem Xmw (l:List (List UInt8)) (w:List UInt8):Xia (l++[w])=if w=Xis then Xia l else Xia l++[w]:=by
 unfold Xia
 rw [List.filter_append]
 by_cases h:w=Xis
 ·rw [if_pos h];simp [h]
 ·rw [if_neg h];simp [h]
theorem Xe1 (l:List (List UInt8)) (w:List UInt8) (h:w≠Xis):(Xia l).contains w=decide (w∈l):=by
 rw [Bool.eq_iff_iff]
 simp [Xia,h]
def Xh4 (ts:List Tok) (k:Nat):Except Flt (Unit × Nat):=if (tkA ts k).kind=1∧(tkA ts k).text=Xtm then .ok ((),k+1) else .error (flt 60 (tkA ts k))
def Xqt (full:Bool) (t:Tok):Except Flt Unit:=if full then .error (flt 1 t) else .ok ()
def Xpy (ts:List Tok):Prop:=∀t∈ts,t.text.length≤8192
theorem Xob {ts:List Tok} (hS:Xpy ts) {k:Nat} (hk:k < ts.length) (full:Bool):Xiw ts k full=Xh4 ts k >>= fun p=>((Xbf ts p.2 1 32).map fun t=>(t,p.2+1)) >>= fun q=>((Xqt full q.1).map fun u=>(u,q.2)) >>= fun r=>((Xb5 ts r.2 [123]).map fun u=>(u,r.2+1)) >>= fun s=>Xbg ts q.1 s.2 [] (Xg1 q.1):=by
 have h8:=hS ts[k] (List.getElem_mem hk)
 unfold Xiw Xh4
 have e:Xbf ts k 1 8192=if (tkA ts k).kind≠1 then .error (flt 60 (tkA ts k)) else .ok (tkA ts k):=by
  unfold Xbf
  rw [Xbm hk,if_neg (show ¬8192 < ts[k].text.length by omega)]
 rw [e]
 by_cases h1:(tkA ts k).kind=1
 ·rw [if_neg (fun h=>h h1)]
  simp only [bind,Except.bind]
  by_cases h2:(tkA ts k).text=Xtm
  ·rw [if_neg (fun h=>h h2),if_pos ⟨h1,h2⟩]
   simp only [Xek,Xqt,bind,Except.bind]
   cases h3:Xbf ts (k+1) 1 32 with
   | error f=>rfl
   | ok t=>
     simp only [Except.map]
     cases full with
     | true=>rfl
     | false=>
       simp only [Bool.false_eq_true,if_false]
       cases h4:Xb5 ts (k+2) [123]<;>simp [h4]
  ·rw [if_pos h2,if_neg (fun h=>h2 h.2)]
 ·rw [if_pos h1,if_neg (fun h=>h1 h.1)]
  rfl
theorem Xhk {ts:List Tok} {name:Tok} {k:Nat} {seen:List (List UInt8)} {j:JF} (h:gIs ts k [125]=true):Xbg ts name k seen j=(if seen.contains XlP then .ok ((),k) else .error (flt 6 name):Except Flt (Unit × Nat)) >>= fun p=>((Xb5 ts p.2 [125]).map fun u=>(u,p.2+1)).map fun q=>(j,q.2):=by
 rw [Xbg,if_pos h]
 cases seen.contains XlP with
 | true=>simp [bind,Except.bind,Except.map,Xb5,h]
 | false=>rfl
theorem Xmp {ts:List Tok} {name:Tok} {k:Nat} {seen:List (List UInt8)} {j:JF} (h:gIs ts k [125]=false) (h2:(tkA ts k).kind≠1∨¬(tkA ts k).text∈items):Xbg ts name k seen j=.error (flt 60 (tkA ts k)):=by
 rw [Xbg,if_neg (by rw [h];decide),if_pos (by simpa using h2)]
theorem Xmq {ts:List Tok} {name:Tok} {k:Nat} {seen:List (List UInt8)} {j:JF} (h:gIs ts k [125]=false) (h2:(tkA ts k).kind=1) (h3:(tkA ts k).text∈items) (h4:(tkA ts k).text≠Xis) (h5:seen.contains (tkA ts k).text=true):Xbg ts name k seen j=.error (flt 5 (tkA ts k)):=by
 rw [Xbg,if_neg (by rw [h];decide),if_neg (by simp [h2,h3]),if_pos ⟨h4,h5⟩]
theorem Xkl {ts:List Tok} {name:Tok} {k:Nat} {seen:List (List UInt8)} {j:JF} (h:gIs ts k [125]=false) (h2:(tkA ts k).kind=1) (h3:(tkA ts k).text∈items) (h4:¬((tkA ts k).text≠Xis∧seen.contains (tkA ts k).text=true)):Xbg ts name k seen j=XbU ts (k+1) (tkA ts k).text j >>= fun x=>if k < x.2∧k < ts.length then Xbg ts name x.2 (if (tkA ts k).text=Xis then seen else seen++[(tkA ts k).text]) x.1 else .error (flt 60 (tkA ts k)):=by
 rw [Xbg,if_neg (by rw [h];decide),if_neg (by simp [h2,h3]),if_neg h4]
 cases XbU ts (k+1) (tkA ts k).text j with
 | error f=>rfl
 | ok x=>simp only [bind,Except.bind];split<;>rfl
theorem XuU (ts:List Tok) (k:Nat) (l c:Int) (sv:AV) (hk:k < ts.length) (hl:ts.length≤1000000):Xa3 Tryz.prog 201 [] [.at_ (pc ts k 0 l c sv),.x (.int .i64 1),.x (.string (bs [106,111,98]))] (fun r H'=>r=.x (.bool (ts[k].kind == 1 && ts[k].text == [106,111,98]))∧H'=[]):=by
 have h:=XuW ts k 0 l c sv 1 [106,111,98] hk hl
 simp only [isP,List.getElem?_eq_getElem hk] at h
 exact h
theorem Xol {ts:List Tok} (hS:Xpy ts) {k:Nat} (hk:k < ts.length) {full:Bool} {l c:Int} {s1 s2 s3 s4:PS} {t:Tok} {j:JF} (hh:ts[k].kind=1∧ts[k].text=Xtm) (g1:Got ts ⟨k+1,0,l,c⟩ ((Xbf ts (k+1) 1 32).map fun t=>(t,k+1+1)) s1 t) (g2:Got ts s1 ((Xqt full t).map fun u=>(u,s1.k)) s2 ()) (g3:Got ts s2 ((Xb5 ts s2.k [123]).map fun u=>(u,s2.k+1)) s3 ()) (g4:Got ts s3 (Xbg ts t s3.k [] (Xg1 t)) s4 j):Got ts ⟨k,0,l,c⟩ (Xiw ts k full) s4 j:=by
 refine Got.of ?_ (Xob hS hk full)
 unfold Xh4
 rw [Xbm hk,if_pos hh]
 refine Got.step (k2:=k+1) ?_ rfl (Nat.le_succ _)
 refine (Got.bind (y:=fun t q=>((Xqt full t).map fun u=>(u,q)) >>= fun r=>((Xb5 ts r.2 [123]).map fun u=>(u,r.2+1)) >>= fun s=>Xbg ts t s.2 [] (Xg1 t)) g1 ?_).of rfl
 refine Got.bind (y:=fun _ q=>((Xb5 ts q [123]).map fun u=>(u,q+1)) >>= fun s=>Xbg ts t s.2 [] (Xg1 t)) g2 ?_
 exact Got.bind (y:=fun _ q=>Xbg ts t q [] (Xg1 t)) g3 g4
theorem Got.off {α β:Type} {ts:List Tok} {s s':PS} {x:Except Flt (α × Nat)} {y:Except Flt (β × Nat)} {v:α} {w:β} (h:Got ts s x s' v) (hb:s.e≠0):Got ts s y s' w:=⟨h.1,h.2.1,h.2.2.1,fun e=>absurd e hb⟩
theorem Got.flt {α β:Type} {ts:List Tok} {s s':PS} {f:Flt} {v:α} {w:β} (h:Got ts s (.error f:Except Flt (α × Nat)) s' v):Got ts s (.error f:Except Flt (β × Nat)) s' w:=h
theorem XeE:XkY=items:=rfl
theorem Xuf (bp:Nat) (ts:List Tok) (k:Nat) (l c:Int) (sv:AV) (hsv:sv.one=true) (n:Nat) (hk:k < ts.length) (hl:ts.length≤1000000) (hv:VT ts) (hN:XeI ts) (hS:Xpy ts) :
  Xa3 Tryz.prog 188 [.box bp (pc ts k 0 l c sv)] [.x (.pointer (some ⟨bp,0,none⟩)),.x (.int .i64 n)] (fun r H'=>∃j k' e' l' c' sv',r=.agg (JF.cells j)∧H'=[.box bp (pc ts k' e' l' c' sv')]∧sv'.one=true∧k' < ts.length∧Got ts ⟨k,0,l,c⟩ (Xiw ts k (decide (32≤n))) ⟨k',e',l',c'⟩ j∧JB j k'∧(e'=0→k < k')):=by
 have hN':=Lib.hid hN
 have hS':=Lib.hid hS
 clear hN hS
 have hn:=Xkx ts k 0 l c sv hk hl
 have hi:=XuU ts k l c sv hk hl
 unfold Tok.av at hn
 simp only [pc]
 refine XaD Tryz.func188 rfl ?_
 simp only [Tryz.ntmps188,Xvy,XvB,XvC,XvD,XvG,XvF,Nat.reduceAdd,Nat.reduceSub]
 (repeat' (first|with_reducible (first|refine Xag ?_|refine Xac ?_|refine Xar ?_|refine Xau ?_|refine Xae ?_|refine Xaa ?_|refine Xax ?_)|(refine Xak _ rfl (fun h=>?_) (fun h=>?_)<;>((try (simp only [whn] at h));skip))|((apply Xad rfl);(case h=>(first|(apply Xab 0 rfl;(exact Xap _ rfl))|(apply Xab 4 rfl;(exact Xbl _ rfl (by first|exact .inl ⟨_,rfl⟩|fail)))|(apply Xab 5 rfl;(exact Xal _ _ _ _ _ _ rfl rfl Xa5.out))|(apply Xab 6 rfl;(exact Xaz _ _ _ _ _ _ _ _ rfl rfl XaS.out XaN.out (by first|exact Xvu rfl|fail) (by first|exact Xvu rfl|fail)))|(apply Xab 10 rfl;(exact Xa1 _ _ _ _ _ rfl HPl.out (by first|rfl|fail) rfl))|(apply Xab 11 rfl;(first|exact Xa9 187 Tryz.f187 _ _ rfl rfl Tryz.func187 (by decide) rfl (by (repeat' (first|exact VwL.nil|(refine VwL.cons ?_ ?_)|exact Vw.box (List.Mem.tail _ (List.Mem.head _)) (VwL.refl _ _)|fail));done) (hn)|exact Xa9 201 Tryz.f201 _ _ rfl rfl Tryz.func201 (by decide) rfl (by (repeat' (first|exact VwL.nil|(refine VwL.cons ?_ ?_)|exact Vw.refl _|exact Vw.box (List.Mem.tail _ (List.Mem.head _)) (VwL.refl _ _)|fail));done) (hi)))|(apply XaC;(case hs=>(intro _ _ h;cases h));(case hx=>rfl);(case hrun=>(intro w;simp [wtb,AV.val,go_sem];(try go_bits);rfl)))));(case hT=>((try simp (disch:=omega) only [wtn,pc,Tok.av,XcD,Xvz,Xvw,Xvx,XvA,XvE,Nat.reduceAdd,Nat.reduceMul,Nat.reduceSub,↓reduceIte,Nat.reduceEqDiff]);rfl)))|(refine Xai rfl ?_;((first|(refine Xas 11 rfl ?_;(refine Xam 202 Tryz.f202 [_] _ _ _ rfl rfl Tryz.func202 (by decide) rfl (XvI (l₁:=[_])) (VwL.refl _ _) (XfD _ ts k 0 _ _ sv hsv _ (by decide) ts[k] hk) ?_;rintro _ _ ⟨e2,l2,c2,rfl,rfl,hz2,g2⟩))|(refine Xas 14 rfl ?_;(refine XaK _ _ rfl Xbk.out rfl (fun b=>?_)))|(refine Xas 16 rfl ?_;(refine Xaw _ _ _ _ _ _ _ rfl rfl XaS.out XaR.out (by first|rfl|fail) (by first|exact Xvu rfl|fail) ?_)));apply Xah;(case hT=>((try simp (disch:=omega) only [wtn,pc,Tok.av,XcD,Xvz,Xvw,Xvx,XvA,XvE,Nat.reduceAdd,Nat.reduceMul,Nat.reduceSub,↓reduceIte,Nat.reduceEqDiff]);rfl));(case hH=>((try simp (disch:=omega) only [wtn,pc,Tok.av,XcD,Xvz,Xvw,Xvx,XvA,XvE,Nat.reduceAdd,Nat.reduceMul,Nat.reduceSub,↓reduceIte,Nat.reduceEqDiff]);rfl))))|fail))
 ·refine Xaf _ _ (Xbh rfl (RV.cell 1 rfl rfl XaN.out (by simp) (by simp)) (XaH.mk' [_] [_] (List.Perm.swap _ _ _) (XaB.refl _ _) (VwL.cons (Vw.aggx (by (repeat' (first|exact VwL.nil|(refine VwL.cons ?_ ?_)|exact Vw.refl _|exact Vw.nil|fail)))) VwL.nil))) ⟨JF.zero,k,e2,l2,c2,sv,rfl,rfl,hsv,hk,?_,⟨Nat.zero_le _,Nat.zero_le _,Nat.zero_le _⟩,fun h0=>absurd h0 hz2⟩
  refine Got.of ?_ (Xob hS'.out hk _)
  unfold Xh4
  rw [Xbm hk,if_neg (fun hq=>by rcases h with h|h;exact h hq.1;exact h hq.2)]
  exact (Got.bind (y:=fun _ _=>.error (flt 60 ts[k])) g2 (Got.bad hk hz2 _ JF.zero)).of rfl
 ·have hkk:=hv k hk (by omega)
  (repeat' (first|with_reducible (first|refine Xag ?_|refine Xac ?_|refine Xao ?_|refine Xau ?_|refine Xae ?_|refine Xaa ?_)|(refine Xak _ rfl (fun h=>?_) (fun h=>?_)<;>((try (simp only [whn] at h));skip))|((first|apply Xad rfl|apply Xa8 _ _ rfl rfl rfl);(case h=>((try (intro (hp:(_:Bool)=true);((try simp only [hp]);(try simp only [whn] at hp))));(first|(apply Xab 0 rfl;(exact Xap _ rfl))|(apply Xab 1 rfl;(exact XbC _ _ _ _ _ rfl rfl rfl rfl))|(apply Xab 4 rfl;(exact Xbl _ rfl (by first|exact .inl ⟨_,rfl⟩|fail)))|(apply Xab 5 rfl;(exact Xal _ _ _ _ _ _ rfl rfl Xa5.out))|(apply Xab 6 rfl;(exact Xaz _ _ _ _ _ _ _ _ rfl rfl XaS.out XaN.out (by first|exact Xvu rfl|fail) (by first|exact Xvu rfl|fail)))|(apply Xab 10 rfl;(exact Xc0 _ _ _ _ rfl HPl.out (by decide) rfl (by simp [wtb,AV.one,Value.oneCell'])))|(apply Xab 11 rfl;(exact Xa9 189 Tryz.f189 _ _ rfl rfl Tryz.func189 (by decide) rfl (by (repeat' (first|exact VwL.nil|(refine VwL.cons ?_ ?_)|exact Vw.box (List.Mem.tail _ (List.Mem.head _)) (VwL.refl _ _)|fail));done) (Xca ts _ _ _ _ sv)))|(apply XaC;(case hs=>(intro _ _ h;cases h));(case hx=>rfl);(case hrun=>(intro w;simp [wtb,AV.val,go_sem];skip;rfl))))));(case hT=>((try simp (disch:=omega) only [wtn,pc,Tok.av,XcD,Xvz,Xvw,Xvx,XvA,XvE,Nat.reduceAdd,Nat.reduceMul,Nat.reduceSub,↓reduceIte,Nat.reduceEqDiff]);rfl)))|(refine Xai rfl ?_;((first|(refine Xas 11 rfl ?_;(first|(refine Xam 203 Tryz.f203 [_] _ _ _ rfl rfl Tryz.func203 (by decide) rfl (XvI (l₁:=[_])) (VwL.refl _ _) (XhE _ ts (k+1) 0 _ _ sv hsv 1 32 hkk hl hv (by decide)) ?_;rintro _ _ ⟨k1,e1,l1,c1,rfl,rfl,q1,g1⟩)|(refine Xam 202 Tryz.f202 [_] _ _ _ rfl rfl Tryz.func202 (by decide) rfl (XvI (l₁:=[_])) (VwL.refl _ _) (XfD _ ts k1 _ _ _ sv hsv _ (by decide) ts[k+1] q1) ?_;rintro _ _ ⟨e2,l2,c2,rfl,rfl,hz2,g2⟩)|(refine Xam 204 Tryz.f204 [_] _ _ _ rfl rfl Tryz.func204 (by decide) rfl (XvI (l₁:=[_,_])) (VwL.refl _ _) (XlE _ ts k1 _ _ _ sv hsv [123] q1 hl hv) ?_;rintro _ _ ⟨k3,e3,l3,c3,rfl,rfl,q3,g3⟩)|(refine Xam 204 Tryz.f204 [_] _ _ _ rfl rfl Tryz.func204 (by decide) rfl (XvI (l₁:=[_,_,_])) (VwL.refl _ _) (XlE _ ts k1 _ _ _ sv hsv [123] q1 hl hv) ?_;rintro _ _ ⟨k3,e3,l3,c3,rfl,rfl,q3,g3⟩)))|(refine Xas 14 rfl ?_;(refine XaK _ _ rfl Xbk.out rfl (fun b=>?_)))|(refine Xas 16 rfl ?_;(refine Xaw _ _ _ _ _ _ _ rfl rfl XaS.out XaR.out (by first|rfl|fail) (by first|exact Xvu rfl|fail) ?_))|(refine Xas 17 rfl ?_;(refine XaE _ _ _ _ _ _ _ _ rfl XaY.out (by first|rfl|fail) rfl (by decide) rfl (fun b=>?_))));apply Xah;(case hT=>((try simp (disch:=omega) only [wtn,pc,Tok.av,XcD,Xvz,Xvw,Xvx,XvA,XvE,Nat.reduceAdd,Nat.reduceMul,Nat.reduceSub,↓reduceIte,Nat.reduceEqDiff]);rfl));(case hH=>((try simp (disch:=omega) only [wtn,pc,Tok.av,XcD,Xvz,Xvw,Xvx,XvA,XvE,Nat.reduceAdd,Nat.reduceMul,Nat.reduceSub,↓reduceIte,Nat.reduceEqDiff]);rfl))))|fail))
  all_goals
   rename_i ob hP tb lb
   obtain ⟨jb,rfl⟩:∃x,x=b:=⟨b,rfl⟩
   have hfin:∀s' v,Got ts ⟨k3,e3,l3,c3⟩ (Xbg ts ts[k+1] k3 [] (Xg1 ts[k+1])) s' v→Got ts ⟨k,0,l,c⟩ (Xiw ts k (decide (32≤n))) s' v:=by
    intro s' v hg
    first
     | exact Xol hS'.out hk hP g1 (g2.of (by rw [decide_eq_true (by omega)];rfl)) g3 hg
     | (refine Xol hS'.out hk hP g1 ?_ g3 hg
        by_cases he:e1=0
        ·exact (Got.pure q1 ()).of (by rw [decide_eq_false (by omega)];rfl)
        ·exact Got.bad q1 he _ _)
   have hfin':=Lib.hid hfin
   clear hfin
   have hk1:=g1.2.1
   have hk3:=g3.2.1
   simp only at hk1 hk3
   refine Xbt 9 1 ?_
   apply XaQ (S:=Nat × Int × Int × Int × JF × List (List UInt8) × Option Addr × Nat) (fun s=>frm 128 [(0,.x (.pointer (some ⟨bp,0,none⟩))),(4,.x (.pointer (some ⟨ob,0,none⟩))),(5,.x (.pointer (some ⟨tb,0,none⟩))),(6,.x (.pointer (some ⟨jb,0,none⟩)))])
    (fun s=>[.box bp (pc ts s.1 s.2.1 s.2.2.1 s.2.2.2.1 (.x (.slice s.2.2.2.2.2.2.1 s.2.2.2.2.2.1.length s.2.2.2.2.2.2.2))),.row s.2.2.2.2.2.2.1 s.2.2.2.2.2.1.length s.2.2.2.2.2.2.2 9 1 (sa s.2.2.2.2.2.1),.box jb (JF.cells s.2.2.2.2.1),.box tb [.x (.int .i64 ts[k+1].kind),.x (.string (bs ts[k+1].text)),.x (.int .i64 (ts[k+1].line:Nat)),.x (.int .i64 (ts[k+1].col:Nat))],.box ob [.x (.string ⟨#[]⟩),.x (.string ⟨#[]⟩),.x (.slice none 0 0),.x (.slice none 0 0),.x (.bool false),.x (.string ⟨#[]⟩),.x (.int .i64 0),.x (.int .u64 0),.x (.int .u64 0),.x (.int .u64 0),.x (.int .i64 0),.x (.int .u64 0),.x (.slice none 0 0),.x (.int .i64 0),.x (.int .i64 0)]])
    (fun s=>k+1≤s.1∧s.1 < ts.length∧JB s.2.2.2.2.1 s.1∧s.2.2.2.2.2.1.length≤s.1∧∀s' v,Got ts ⟨s.1,s.2.1,s.2.2.1,s.2.2.2.1⟩ (Xbg ts ts[k+1] s.1 (Xia s.2.2.2.2.2.1) s.2.2.2.2.1) s' v→Got ts ⟨k,0,l,c⟩ (Xiw ts k (decide (32≤n))) s' v) (fun s=>ts.length - s.1) (k3,e3,l3,c3,Xg1 ts[k+1],[],none,0)
   case h0=>exact XaH.mk' [.row (some ⟨lb,0,none⟩) 1 1 _ 2 _] [.box bp _,.row none 0 0 _ _ _,.box jb _,.box tb _,.box ob _] (by (repeat' (first|exact Xvv _|refine (XvI (l₁:=[_])).trans (XvL _ ?_)|refine (XvI (l₁:=[_,_,_])).trans (XvL _ ?_)|fail))) (XaB.cons (VwH.refl _ _) (XaB.cons (VwH.refl _ _) (XaB.cons (VwH.box _ (by (repeat' (first|exact VwL.nil|apply VwL.cons|exact Vw.refl _|exact Vw.nil|exact Vw.row (List.Mem.head _) (VwL.refl _ _)|fail)))) (XaB.cons (VwH.refl _ _) (XaB.cons (VwH.refl _ _) XaB.nil))))) (by (repeat' (first|exact VwL.nil|(refine VwL.cons ?_ ?_)|exact Vw.refl _|exact Vw.top _|fail)))
   case hi=>exact ⟨by simp only;omega,q3,⟨by simp [Xg1],by simp [Xg1],by simp [Xg1];omega⟩,by simp,hfin'.out⟩
   rintro ⟨kk,ee,ll,cc,j,ns,ad,cap⟩ ⟨w1,w2,w3,w4,w5⟩
   simp only at w1 w2 w3 w4 w5
   have w6:=Lib.hid w5
   clear w5 hfin'
   simp only [frm,XvC,XvD,Xvw,Xvx,XvJ,XvK]
   simp only [JF.cells]
   (repeat' (first|with_reducible (first|refine Xag ?_|refine Xac ?_|refine Xao ?_|refine Xar ?_|refine Xau ?_|refine XaW ?_|refine Xae ?_|refine Xaa ?_|refine XaL ?_|refine Xax ?_|refine XaJ ?_|refine Xav ?_)|(refine Xak _ rfl (fun h=>?_) (fun h=>?_)<;>((try (simp only [whn] at h));skip))|((first|apply Xad rfl|apply Xa8 _ _ rfl rfl rfl);(case h=>((try (intro (hp:(_:Bool)=true);((try simp only [Bool.not_eq_true'] at hp);(try simp only [hp,wte]);(try simp only [whn] at hp))));(first|(apply Xab 0 rfl;(exact Xap _ rfl))|(apply Xab 1 rfl;(first|exact XbC _ _ _ _ _ rfl rfl rfl rfl|exact XdJ _ _ _ _ _ rfl rfl rfl rfl))|(apply Xab 4 rfl;(exact Xbl _ rfl (by first|exact .inl ⟨_,rfl⟩|fail)))|(apply Xab 5 rfl;(exact Xal _ _ _ _ _ _ rfl rfl Xa5.out))|(apply Xab 6 rfl;(exact Xaz _ _ _ _ _ _ _ _ rfl rfl XaS.out XaN.out (by first|exact Xvu rfl|fail) (by first|exact Xvu rfl|fail)))|(apply Xab 11 rfl;(first|exact Xa9 189 Tryz.f189 _ _ rfl rfl Tryz.func189 (by decide) rfl (by (repeat' (first|exact VwL.nil|(refine VwL.cons ?_ ?_)|exact Vw.box (List.Mem.head _) (VwL.refl _ _)|fail));done) (Xca ts _ _ _ _ _)|exact Xa9 201 Tryz.f201 _ _ rfl rfl Tryz.func201 (by decide) rfl (by (repeat' (first|exact VwL.nil|(refine VwL.cons ?_ ?_)|exact Vw.refl _|exact Vw.box (List.Mem.head _) (VwL.refl _ _)|fail));done) (XuV ts kk _ _ _ _ [125] w2 hl)|exact Xa9 187 Tryz.f187 _ _ rfl rfl Tryz.func187 (by decide) rfl (by (repeat' (first|exact VwL.nil|(refine VwL.cons ?_ ?_)|exact Vw.box (List.Mem.head _) (VwL.refl _ _)|fail));done) (Xkx ts kk _ _ _ _ w2 hl)|exact Xay 205 Tryz.f205 _ _ rfl rfl Tryz.func205 (by decide) rfl (VwL.refl _ _) (Xss _)|exact Xa9 206 Tryz.f206 _ _ rfl rfl Tryz.func206 (by decide) rfl (by (repeat' (first|exact VwL.nil|(refine VwL.cons ?_ ?_)|exact Vw.refl _|exact Vw.row (List.Mem.tail _ (List.Mem.head _)) (VwL.refl _ _)|fail));done) (XlA ns [114,117,110] (by omega))))|(apply XaC;(case hs=>(intro _ _ h;cases h));(case hx=>rfl);(case hrun=>(intro w;simp [wtb,AV.val,go_sem];skip;rfl))))));(case hT=>((try simp (disch:=omega) only [wtn,pc,Tok.av,XcD,Xvz,Xvw,Xvx,XvA,XvE,Nat.reduceAdd,Nat.reduceMul,Nat.reduceSub,↓reduceIte,Nat.reduceEqDiff]);rfl)))|(refine Xai rfl ?_;((first|(refine Xas 11 rfl ?_;(first|(refine Xam 202 Tryz.f202 [_] _ _ _ rfl rfl Tryz.func202 (by decide) rfl (XvI (l₁:=[_])) (VwL.refl _ _) (XfD _ ts kk _ _ _ _ rfl _ (by decide) ts[kk] w2) ?_;rintro _ _ ⟨e5,l5,c5,rfl,rfl,hz5,g5⟩)|(refine Xam 202 Tryz.f202 [_] _ _ _ rfl rfl Tryz.func202 (by decide) rfl (Xvv _) (VwL.refl _ _) (XfD _ ts kk _ _ _ _ rfl _ (by decide) ts[k+1] w2) ?_;rintro _ _ ⟨e5,l5,c5,rfl,rfl,hz5,g5⟩)|(refine Xam 204 Tryz.f204 [_] _ _ _ rfl rfl Tryz.func204 (by decide) rfl (Xvv _) (VwL.refl _ _) (XlE _ ts kk _ _ _ _ rfl [125] w2 hl hv) ?_;rintro _ _ ⟨k6,e6,l6,c6,rfl,rfl,q6,g6⟩)))|(refine Xas 14 rfl ?_;(refine XaK _ _ rfl Xbk.out rfl (fun b=>?_)))|(refine Xas 16 rfl ?_;(refine Xaw _ _ _ _ _ _ _ rfl rfl XaS.out XaR.out (by first|rfl|fail) (by first|exact Xvu rfl|fail) ?_)));apply Xah;(case hT=>((try simp (disch:=omega) only [wtn,pc,Tok.av,XcD,Xvz,Xvw,Xvx,XvA,XvE,Nat.reduceAdd,Nat.reduceMul,Nat.reduceSub,↓reduceIte,Nat.reduceEqDiff]);rfl));(case hH=>((try simp (disch:=omega) only [wtn,pc,Tok.av,XcD,Xvz,Xvw,Xvx,XvA,XvE,Nat.reduceAdd,Nat.reduceMul,Nat.reduceSub,↓reduceIte,Nat.reduceEqDiff]);rfl))))|fail))
   ·have he:ee=0∧gIs ts kk [125]=false:=by assumption
    refine Xaf _ _ ?_ ⟨j,kk,e5,l5,c5,.sq ns.length (sa ns),rfl,rfl,rfl,w2,w6.out _ _ (g5.flt.of ?_),w3,fun h0=>absurd h0 hz5⟩
    ·refine Xbh rfl (RV.cell 5 rfl rfl XaN.out (by simp) (by simp)) (XaH.mk' [_,_,_,_,_] [_] (XvI (l₁:=[_,_,_,_,_]) (l₂:=[])).symm (XaB.cons (VwH.box _ (by (repeat' (first|exact VwL.nil|apply VwL.cons|exact Vw.refl _|exact Vw.row (List.Mem.tail _ (List.Mem.head _)) (VwL.refl _ _)|fail)))) XaB.nil) (VwL.refl _ _))
    ·rw [Xmp he.2 (by rw [Xbm w2,←XeE];exact h),Xbm w2]
   ·have he:ee=0∧gIs ts kk [125]=false:=by assumption
    refine Xbe mixed ?_ ?_
    ·decide +kernel
    have hw0:=h
    (repeat' (first|with_reducible (first|refine Xag ?_|refine Xac ?_|refine Xar ?_|refine Xau ?_|refine Xae ?_|refine Xch ?_|refine Xaa ?_|refine Xax ?_|refine Xav ?_)|(refine Xak _ rfl (fun h=>?_) (fun h=>?_)<;>((try (simp only [whn] at h));skip))|((first|apply Xad rfl|apply XbO rfl|apply XtH _ _ rfl rfl rfl);(case h=>((try (intro (hp:(_:Bool)=true);((try simp only [Bool.not_eq_true'] at hp);(try simp only [hp,wte]);(try simp only [whn] at hp))));(first|(apply Xab 0 rfl;(exact Xap _ rfl))|(apply Xab 1 rfl;(exact XbC _ _ _ _ _ rfl rfl rfl rfl))|(apply Xab 4 rfl;(exact Xbl _ rfl (by first|exact .inl ⟨_,rfl⟩|fail)))|(apply Xab 5 rfl;(exact Xal _ _ _ _ _ _ rfl rfl Xa5.out))|(apply Xab 6 rfl;(exact Xaz _ _ _ _ _ _ _ _ rfl rfl XaS.out XaN.out (by first|exact Xvu rfl|fail) (by first|exact Xvu rfl|fail)))|(apply Xab 11 rfl;(exact Xa9 206 Tryz.f206 _ _ rfl rfl Tryz.func206 (by decide) rfl (by (repeat' (first|exact VwL.nil|(refine VwL.cons ?_ ?_)|exact Vw.refl _|exact Vw.row (List.Mem.tail _ (List.Mem.tail _ (List.Mem.head _))) (VwL.refl _ _)|fail));done) (XlA ns (ts[kk]'w2).text (by omega))))|(apply XaC;(case hs=>(intro _ _ h;cases h));(case hx=>rfl);(case hrun=>(intro w;simp [wtb,AV.val,go_sem];skip;rfl))))));(case hT=>((try simp (disch:=omega) only [wtn,pc,Tok.av,XcD,Xvz,Xvw,Xvx,XvA,XvE,Nat.reduceAdd,Nat.reduceMul,Nat.reduceSub,↓reduceIte,Nat.reduceEqDiff]);rfl)))|(refine Xai rfl ?_;((first|(refine Xas 11 rfl ?_;(refine Xam 202 Tryz.f202 [_] _ _ _ rfl rfl Tryz.func202 (by decide) rfl (XvI (l₁:=[_])) (VwL.refl _ _) (XfD _ ts kk _ _ _ _ rfl _ (by decide) ts[kk] w2) ?_;rintro _ _ ⟨e5,l5,c5,rfl,rfl,hz5,g5⟩))|(refine Xas 16 rfl ?_;(refine Xaw _ _ _ _ _ _ _ rfl rfl XaS.out XaR.out (by first|rfl|fail) (by first|exact Xvu rfl|fail) ?_)));apply Xah;(case hT=>((try simp (disch:=omega) only [wtn,pc,Tok.av,XcD,Xvz,Xvw,Xvx,XvA,XvE,Nat.reduceAdd,Nat.reduceMul,Nat.reduceSub,↓reduceIte,Nat.reduceEqDiff]);rfl));(case hH=>((try simp (disch:=omega) only [wtn,pc,Tok.av,XcD,Xvz,Xvw,Xvx,XvA,XvE,Nat.reduceAdd,Nat.reduceMul,Nat.reduceSub,↓reduceIte,Nat.reduceEqDiff]);rfl))))|fail))
    ·refine Xaf _ _ ?_ ⟨j,kk,e5,l5,c5,.sq ns.length (sa ns),rfl,rfl,rfl,w2,w6.out _ _ (g5.flt.of ?_),w3,fun h0=>absurd h0 hz5⟩
     ·refine Xbh rfl (RV.cell 5 rfl rfl XaN.out (by simp) (by simp)) (XaH.mk' [_,_,_,_,_] [_] (XvI (l₁:=[_,_,_,_,_]) (l₂:=[])).symm (XaB.cons (VwH.box _ (by (repeat' (first|exact VwL.nil|apply VwL.cons|exact Vw.refl _|exact Vw.row (List.Mem.tail _ (List.Mem.head _)) (VwL.refl _ _)|fail)))) XaB.nil) (VwL.refl _ _))
     ·rw [Xmq he.2 (by rw [Xbm w2];exact hw0.1) (by rw [Xbm w2,←XeE];exact hw0.2) (by rw [Xbm w2];exact h.1) (by rw [Xbm w2,Xe1 _ _ h.1];simpa using h.2),Xbm w2]
    ·have hkk2:=hv kk w2 (by omega)
     refine Xb1 mixed [11] [_,_] _ (Xvv _) ?_
     (first|(apply XaI 0 rfl rfl (by kernel_rfl) (by intro c T H hp;simp [XaO,Xat,XaT,Xbr] at hp);(case h=>(exact Xbd _ rfl)))|fail);(apply Xaq;(case hT=>((try simp only [wtn]);rfl));(case hH=>rfl));(first|(apply XaI 1 rfl rfl (by kernel_rfl) (by intro c T H hp;simp [XaO,Xat,XaT,Xbr] at hp);(case h=>(exact Xbd _ rfl)))|fail);(apply Xaq;(case hT=>((try simp only [wtn]);rfl));(case hH=>rfl));(first|(apply XaI 2 rfl rfl (by kernel_rfl) (by intro c T H hp;simp [XaO,Xat,XaT,Xbr] at hp);(case h=>(exact Xcj _ _ _ rfl rfl)))|fail);(apply Xaq;(case hT=>((try simp only [wtn]);rfl));(case hH=>rfl));(first|(apply XaI 3 rfl rfl (by kernel_rfl) (by intro c T H hp;simp [XaO,Xat,XaT,Xbr] at hp);(case h=>(exact XaU _ _ _ _ _ _ rfl rfl Xa5.out)))|fail);(apply Xaq;(case hT=>((try simp only [wtn]);rfl));(case hH=>rfl));(first|refine Xbc 4 rfl rfl (by kernel_rfl) (by intro c T H hp;simp [XaO,Xat,XaT,Xbr] at hp) _ _ _ _ _ _ _ _ rfl rfl XaS.out XaN.out (by first|exact Xvu rfl|fail) (by first|exact Xvu rfl|fail) ?_|fail);(apply Xaq;(case hT=>((try simp only [wtn]);rfl));(case hH=>rfl));(first|(apply XaI 5 rfl rfl (by kernel_rfl) (by intro c T H hp;simp [XaO,Xat,XaT,Xbr] at hp);(case h=>(exact XaU _ _ _ _ _ _ rfl rfl Xa5.out)))|fail);(apply Xaq;(case hT=>((try simp only [wtn]);rfl));(case hH=>rfl));(first|refine Xbc 6 rfl rfl (by kernel_rfl) (by intro c T H hp;simp [XaO,Xat,XaT,Xbr] at hp) _ _ _ _ _ _ _ _ rfl rfl XaS.out XaN.out (by first|exact Xvu rfl|fail) (by first|exact Xvu rfl|fail) ?_|fail);(apply Xaq;(case hT=>((try simp only [wtn]);rfl));(case hH=>rfl))
     (refine Xbu 7 (by decide +kernel) rfl rfl ?_;(first|((refine Xas 17 rfl ?_;(refine XaE _ _ _ _ _ _ _ _ rfl XaY.out (by first|rfl|fail) rfl (by decide) rfl (fun b=>?_)));apply Xaq;(case hT=>((try simp only [wtn]);rfl));(case hH=>((try simp only [wtn]);rfl)))|fail))
     (refine Xbu 8 (by decide +kernel) rfl rfl ?_;(first|((refine Xas 13 rfl ?_;(refine XaP _ _ _ _ _ _ _ _ _ _ _ _ _ _ rfl rfl Xb3.out (Src.row _ rfl Xb3.out) XaY.out (by first|rfl|fail) (XdQ _ _ (by omega) (by decide)) (fun ad cap=>?_)));apply Xaq;(case hT=>((try simp only [wtn]);rfl));(case hH=>((try simp only [wtn]);rfl)))|fail))
     (repeat ((first|refine Xbu 9 (by decide +kernel) rfl rfl ?_|refine Xbu 10 (by decide +kernel) rfl rfl ?_|fail);(first|(apply Xba;(case h=>(first|(apply Xab 4 rfl;(exact Xbl _ rfl (by first|exact .inl ⟨_,rfl⟩|fail)))|(apply Xab 5 rfl;(exact Xal _ _ _ _ _ _ rfl rfl Xa5.out))));(apply Xaq;(case hT=>((try simp only [wtn]);rfl));(case hH=>rfl)))|fail)))
     refine XbL (by decide +kernel) ?_
     refine XaA rfl (by simp only [XvG,XvF];rfl) ?_
     (refine Xbp 11 (by decide +kernel) rfl rfl ?_;(first|((refine Xas 16 rfl ?_;(refine Xaw _ _ _ _ _ _ _ rfl rfl XaS.out XaR.out (by first|rfl|fail) (by first|exact Xvu rfl|fail) ?_));apply XaA;(case hT=>((try simp only [wtn]);rfl));(case hH=>((try simp only [wtn]);rfl)))|fail))
     refine Xa4 (by decide +kernel) ?_
     (repeat' (first|with_reducible (first|refine Xag ?_|refine Xac ?_|refine Xae ?_|refine Xaa ?_|refine Xaj ?_)|((apply Xad rfl);(case h=>(first|(apply Xab 0 rfl;(exact Xap _ rfl))|(apply Xab 4 rfl;(exact Xbl _ rfl (by first|exact .inl ⟨_,rfl⟩|fail)))|(apply Xab 5 rfl;(exact Xal _ _ _ _ _ _ rfl rfl Xa5.out))|(apply Xab 6 rfl;(exact Xaz _ _ _ _ _ _ _ _ rfl rfl XaS.out XaN.out (by first|exact Xvu rfl|fail) (by first|exact Xvu rfl|fail)))|(apply XaC;(case hs=>(intro _ _ h;cases h));(case hx=>rfl);(case hrun=>(intro w;simp [wtb,AV.val,go_sem];(try go_bits);rfl)))));(case hT=>((try simp (disch:=omega) only [wtn,pc,Tok.av,XcD,JF.cells,Xvz,Xvw,Xvx,XvA,XvE,Nat.reduceAdd,Nat.reduceMul,Nat.reduceSub,↓reduceIte,Nat.reduceEqDiff]);rfl)))|(refine Xai rfl ?_;((first|(refine Xas 11 rfl ?_;(refine Xam 207 Tryz.f207 [_] _ _ _ rfl rfl Tryz.func207 (by decide) rfl (XvI (l₁:=[_])) (VwL.refl _ _) (XtY _ ts (kk+1) _ _ _ _ rfl j _ hkk2 hl hv hN'.out (w3.mono (by omega)) hw0.2) ?_;rintro _ _ ⟨k7,e7,l7,c7,j7,rfl,rfl,q7,g7,w7⟩))|(refine Xas 16 rfl ?_;(refine Xaw _ _ _ _ _ _ _ rfl rfl XaS.out XaR.out (by first|rfl|fail) (by first|exact Xvu rfl|fail) ?_)));apply Xah;(case hT=>((try simp (disch:=omega) only [wtn,pc,Tok.av,XcD,JF.cells,Xvz,Xvw,Xvx,XvA,XvE,Nat.reduceAdd,Nat.reduceMul,Nat.reduceSub,↓reduceIte,Nat.reduceEqDiff]);rfl));(case hH=>((try simp (disch:=omega) only [wtn,pc,Tok.av,XcD,JF.cells,Xvz,Xvw,Xvx,XvA,XvE,Nat.reduceAdd,Nat.reduceMul,Nat.reduceSub,↓reduceIte,Nat.reduceEqDiff]);rfl))))|fail))
     have hq7:=g7.2.1
     simp only at hq7
     refine ⟨(k7,e7,l7,c7,j7,ns++[ts[kk].text],ad,cap),by simp only;omega,⟨by simp only;omega,q7,w7,by simp only [XvH,Xvy,XvB];omega,?_⟩,?_⟩
     ·intro s' v hg
      simp only [Xmw] at hg
      refine w6.out _ _ (((Got.bind (y:=fun j q=>if kk < q∧kk < ts.length then Xbg ts ts[k+1] q (if ts[kk].text=Xis then Xia ns else Xia ns++[ts[kk].text]) j else .error (flt 60 ts[kk])) g7 (hg.of (if_pos ⟨by simp only;omega,w2⟩))).step he.1 (Nat.le_succ _)).of ?_)
      rw [Xkl he.2 (by rw [Xbm w2];exact hw0.1) (by rw [Xbm w2,←XeE];exact hw0.2) ?_,Xbm w2]
      rw [Xbm w2]
      rintro ⟨ha,hb⟩
      rw [Xe1 _ _ ha] at hb
      rcases h with h|h
      ·exact ha h
      ·exact h (by simpa using hb)
     ·simp only [Xjz,XvH,Xvy,XvB]
      exact XaH.mk' [_,_] [.box bp _,.row ad _ cap _ _ _,.box jb _,.box tb _,.box ob _] (List.Perm.trans (l₂:=[.box bp _,.row ad _ cap _ _ _,.box jb _,.box tb _,.box ob _]++[_,_]) (by (repeat' (first|exact Xvv _|refine XvL _ ?_|refine (XvI (l₁:=[_,_])).trans (XvL _ ?_)|fail))) List.perm_append_comm) (XaB.refl _ _) (by (repeat' (first|exact VwL.nil|(refine VwL.cons ?_ ?_)|exact Vw.refl _|exact Vw.top _|fail)))
   all_goals
    have hx:¬ee=0∨gIs ts kk [125]=true:=by assumption
    have hq6:=g6.2.1
    simp only at hq6
   ·have hy:gIs ts kk [125]=true:=by rcases hx with hx|hx;exact absurd h.1 hx;exact hx
    refine Xaf _ _ ?_ ⟨j,k6,e6,l6,c6,.sq ns.length (sa ns),rfl,rfl,rfl,q6,w6.out _ _ ((Got.bind (y:=fun _ q=>((Xb5 ts q [125]).map fun u=>(u,q+1)).map fun q=>(j,q.2)) (g5.of (if_neg ?_)) (g6.val fun _=>j)).of (Xhk hy)),w3.mono hq6,fun _=>by omega⟩
    ·refine Xbh rfl (RV.cell 4 rfl rfl XaN.out (by simp) (by simp)) (XaH.mk' [_,_,_,_] [_] (XvI (l₁:=[_,_,_,_]) (l₂:=[])).symm (XaB.cons (VwH.box _ (by (repeat' (first|exact VwL.nil|apply VwL.cons|exact Vw.refl _|exact Vw.row (List.Mem.head _) (VwL.refl _ _)|fail)))) XaB.nil) (VwL.refl _ _))
    ·rw [Xe1 _ _ (by decide)];exact fun hq=>h.2 (of_decide_eq_true hq)
   ·refine Xaf _ _ ?_ ⟨j,k6,e6,l6,c6,.sq ns.length (sa ns),rfl,rfl,rfl,q6,w6.out _ _ ?_,w3.mono hq6,fun _=>by omega⟩
    ·refine Xbh rfl (RV.cell 4 rfl rfl XaN.out (by simp) (by simp)) (XaH.mk' [_,_,_,_] [_] (XvI (l₁:=[_,_,_,_]) (l₂:=[])).symm (XaB.cons (VwH.box _ (by (repeat' (first|exact VwL.nil|apply VwL.cons|exact Vw.refl _|exact Vw.row (List.Mem.head _) (VwL.refl _ _)|fail)))) XaB.nil) (VwL.refl _ _))
    ·by_cases he:ee=0
     ·have hy:gIs ts kk [125]=true:=by rcases hx with hx|hx;exact absurd he hx;exact hx
      refine (Got.bind (y:=fun _ q=>((Xb5 ts q [125]).map fun u=>(u,q+1)).map fun q=>(j,q.2)) ((Got.pure w2 ()).of (if_pos ?_)) (g6.val fun _=>j)).of (Xhk hy)
      rw [Xe1 _ _ (by decide)]
      rcases h with h|h
      ·exact absurd he h
      ·exact decide_eq_true h
     ·exact g6.off he
theorem Xjd:∀(n:Nat) (p:Nat × Nat) (i:Nat) (l:List UInt8),l.length≤n→i≤2000→(∀ts,Xci p i l=.ok ts→ts.length+i≤2001)∧∀f,Xci p i l=.error f→f.code≠0
 | n,p,i,l,hn,hi0=>by
   cases hd:l.drop (skp l) with
   | nil=>
     rw [XcU p i l hd]
     exact ⟨fun ts h=>(by cases h;simp;omega),fun f h=>by cases h⟩
   | cons c r=>
     have hlen:=congrArg List.length hd
     simp only [List.length_drop,Xvy] at hlen
     cases h1:one (c :: r) with
     | error e=>
       rw [Xdt p i l c r e hd h1]
       refine ⟨fun ts h=>(by cases h),fun f h=>?_⟩
       cases h
       have:=XoI h1
       simp only;omega
     | ok x=>
       by_cases hi:2000≤i
       ·rw [Xc3 p i l c r x hd h1 hi]
        exact ⟨fun ts h=>(by cases h),fun f h=>by cases h;simp⟩
       ·obtain ⟨a,t,m⟩:=x
        obtain ⟨g1,g2,g3,g4⟩:=XfG h1
        simp only at g1 g2 g3 g4
        rw [Xda p i l c r a t m hd h1 g1 (by omega)]
        cases n with
        | zero=>omega
        | succ n=>
          obtain ⟨h2,h3⟩:=Xjd n (plc p (l.take (skp l+m))) (i+1) ((c :: r).drop m) (by simp only [List.length_drop,Xvy];omega) (by omega)
          cases hr:Xci (plc p (l.take (skp l+m))) (i+1) ((c :: r).drop m) with
          | error e=>exact ⟨fun ts h=>(by cases h),fun f h=>by cases h;exact h3 _ hr⟩
          | ok y=>
            refine ⟨fun ts h=>?_,fun f h=>by cases h⟩
            cases h
            have:=h2 y hr
            simp only [Xvy];omega
theorem Xdu (l:List UInt8):(∀f,lex l=.error f→f.code≠0)∧∀ts,lex l=.ok ts→0 < ts.length∧ts.length≤2001∧VT ts∧(∀t∈ts,t.text.length≤1000000)∧l.length≤8192:=by
 unfold lex
 split
 ·exact ⟨fun f h=>(by cases h;simp),fun ts h=>by cases h⟩
 ·rename_i hl
  obtain ⟨h2,h3⟩:=Xjd l.length (1,1) 0 l (Nat.le_refl _) (by omega)
  refine ⟨h3,fun ts h=>?_⟩
  have hc:=h2 ts h
  obtain ⟨qs,e,rfl,he,hq,ht⟩:=Xf0 l.length (1,1) 0 l ts (Nat.le_refl _) h
  refine ⟨by simp,by omega,fun k hk hne=>?_,fun t h=>(by have:=ht t h;omega),by omega⟩
  simp only [XvH,Xvy,XvB] at hk ⊢
  by_cases hlt:k < qs.length
  ·omega
  ·exfalso
   rw [List.getElem_append_right (by omega)] at hne
   simp at hne
   exact hne he
end Go.Proofs.YtdpobjakdplljaaGreatDoor
