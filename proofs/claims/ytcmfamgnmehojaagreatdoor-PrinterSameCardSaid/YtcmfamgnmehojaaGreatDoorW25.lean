import Derived.Test.YtcmfamgnmehojaaGreatDoorW22
import Derived.Test.YtcmfamgnmehojaaGreatDoorW24
/- A walk over symbolic memory: a call that is lent rows beside blocks that are handed to it. No program in sight. -/
set_option linter.unusedSimpArgs false
set_option linter.unusedVariables false
set_option maxRecDepth 100000
set_option maxHeartbeats 8000000
namespace Go.Proofs.YtcmfamgnmehojaaGreatDoor
open Go.RowKit
section
variable {P:Program} {Δ:List Deferred} {V O:Nat→Prop} {w0 w w':World} {B H H' D:List Hp} {T T':List AV} {a a':Act} {o:Oper} {K:List AV→List Hp→Prop}
def isX:AV→Bool|.x _=>true|_=>false
def Hp.exb:Hp→Bool|.box _ cells=>cells.all isX|.row _ _ _ _ _ cells=>cells.all isX
theorem DenL.exX {F F':Nat→Prop} {l:List AV} {vs:List Value} (h:DenL F w l vs) (hx:l.all isX=true):DenL F' w l vs:=DenL.of h.len fun j av u h1 h2=>by
 have:=h.get' j av u h1 h2
 have hxa:=List.all_eq_true.1 hx av (List.mem_of_getElem? h1)
 cases av with
 | x v=>rw [Den] at this ⊢;exact this
 | _=>cases hxa
theorem XdY.exX {F F':Nat→Prop}:∀{h:Hp},h.exb=true→XdY F w h→XdY F' w h
 | .box ..,hx,⟨vals,h1,h2⟩=>⟨vals,h1.exX hx,h2⟩
 | .row ..,hx,⟨vals,h1,h2⟩=>⟨vals,h1.exX hx,h2⟩
theorem XiT {c:Operand} {args:Array Operand} {tys:Array TypeId} {fs cs:Array Value} (f:FuncId) (fn:Func) (H1 R:List Hp) (avs:List AV) (Qf:AV→List Hp→Prop) (ho:o.op=.call { callee:=.value c,args:=args,argTypes:=tys }) (hc:ev T c=.x (.func (.func f) fs cs))
  (hf:P.funcs[f]?=some fn) (hn:fn.name≠ "runtime.NumGoroutine") (hb:fn.body.isSome=true) (hp:H.Perm (H1++R)) (hargs:VwL R (fs.toList.map .x++args.toList.map (ev T)++cs.toList.map .x) avs) (hS:Xbv P f H1 avs Qf) (hex:∀r H',Qf r H'→isX r=true∧∀h∈H',h.exb=true)
  (hK:∀r H',Qf r H'→K (XbH T o.dst r) (H'++R)):Stp P o T H K:=by
 intro Δ V O w0 a w Kc Qc r hKc
 have r1:=r.perm hp
 have hap:=List.pairwise_append.1 r1.hok.apart
 have hsub:∀k,FB V H1 k→FB V (H1++R) k:=fun k hk=>hk.imp id fun ⟨x,hx,e⟩=>⟨x,by simp [hx],e⟩
 have hV:∀k,V k→k < w.heap.size:=fun k hk=>Nat.lt_of_lt_of_le (r.vlt k hk) r.fr.size
 have hH1:HOk V w H1:=⟨fun x hx=>(r1.hok.ok x (by simp [hx])).weak hsub,hap.1,fun x hx k hk=>r1.hok.lt x (by simp [hx]) k hk⟩
 have hd:DenL (FB V H1) w avs (fs.toList++args.toList.map a.eval++cs.toList):=hargs.den hsub (fun h hh=>⟨r1.hok.ok h (by simp [hh]),fun k e hk=>by
  rcases hk with hk|⟨x,hx,e'⟩
  ·exact (r1.hok.lt h (by simp [hh]) k e).2 hk
  ·exact hap.2.2 x hx h hh k e' e⟩) _ ((DenL.exact.app (Xeq r1 args.toList)).app DenL.exact)
 refine XcV ho (r.evx hc) hf hn hb (vs:=(fs.toList++args.toList.map a.eval++cs.toList).toArray) (by apply Array.toList_inj.1;simp) ?_
 refine (hS V w _ hV hH1 hd (r1.gb.mono fun k ⟨x,hx,e⟩=>⟨x,by simp [hx],e⟩)).mono ?_
 rintro e w' ⟨res,H',v,hq,rfl,hdv,hok',hfr,hown⟩
 obtain ⟨hrx,hhx⟩:=hex res H' hq
 have hok2:HOk (FB V R) w' H':=⟨fun x hx=>(hok'.ok x hx).exX (hhx x hx),hok'.apart,fun x hx k hk=>⟨(hok'.lt x hx k hk).1,fun hv=>by
  rcases hv with hv|⟨y,hy,e⟩
  ·exact (hok'.lt x hx k hk).2 hv
  ·rcases hown x hx k hk with ⟨z,hz,e'⟩|h
   ·exact hap.2.2 z hz y hy k e' e
   ·have:=(r1.hok.lt y (by simp [hy]) k e).1;omega⟩⟩
 refine ⟨v,rfl,hKc _ _ _ _ (hK res H' hq) ((r1.called hok2 hfr hown).1.put _ ?_)⟩
 cases res with
 | x u=>rw [Den] at hdv ⊢;exact hdv
 | _=>cases hrx
end
open Go.RowKit
theorem Xlw (l:List (List UInt8 × List UInt8)) (H:List Hp) (g:Nat) (fn:Func) (cs:Array Value) (p:List UInt8 × List UInt8→Bool) (hl:l.length≤1000000) (hf:Tryz.prog.funcs[g]?=some fn) (hnn:fn.name≠ "runtime.NumGoroutine") (hb:fn.body.isSome=true)
  (hp:∀j∈l,Xbv Tryz.prog g H (.x (.agg #[.string (bs j.1),.string (bs j.2)]) :: cs.toList.map .x) (fun r H'=>r=.x (.bool (p j))∧H'=H)) :
  Xbv Tryz.prog 94 H [.sq l.length (ea l),.x (.func (.func g) #[] cs)] (fun r H'=>∃i:Int,r=.x (.int .i64 i)∧H'=H∧(0≤i↔l.any p=true)):=by
 have hp:=Lib.hid hp
 refine XaP Tryz.func94 rfl ?_
 simp only [Tryz.ntmps94,Xpq,Xpt,Xpu,Xpv,Xpy,Xpx,Nat.reduceAdd,Nat.reduceSub]
 (repeat' (first|with_reducible (first|refine Xaj ?_|refine Xac ?_|refine Xas ?_|refine Xaf ?_|refine Xaa ?_)|((apply Xad rfl);(case h=>((try (intro (hp:(_:Bool)=true);((try simp only [Bool.and_eq_true,Bool.not_eq_true',Bool.not_eq_true] at hp);(try simp only [hp,wte]);(try simp only [whn] at hp))));(first|(apply Xab 0 rfl;(first|exact Xar _ rfl|exact Xav _ rfl))|(apply Xab 3 rfl;(exact Xbh _ _ _ _ _ _ HEl.out rfl rfl)))));(case hT=>((try simp only [wtn,Xpr,Xpo,Xpp,Xps,Xpw,Nat.reduceAdd,Nat.reduceMul,Nat.reduceSub,↓reduceIte,Nat.reduceEqDiff]);rfl)))|fail))
 refine Xbn (S:=Nat) (fun k=>frm 19 [(0,.sq l.length (ea l)),(1,.x (.func (.func g) #[] cs)),(7,.x (.int .i64 l.length)),(8,.x (.int .i64 k))]) (fun _=>H) (fun k=>k≤l.length∧(l.take k).any p=false) (fun k=>l.length - k) 0 (XaK.mk' [] _ (Xpn _) (XaI.refl _ _) (by (repeat' (first|exact VwL.nil|(refine VwL.cons ?_ ?_)|exact Vw.refl _|exact Vw.top _|fail)))) ⟨Nat.zero_le _,by simp⟩ fun k hk=>?_
 simp only [frm,Xpu,Xpv,Xpo,Xpp,XpB,XpC]
 obtain ⟨hk,hn⟩:=hk
 have hn:=Lib.hid hn
 (repeat' (first|with_reducible (first|refine Xaj ?_|refine Xac ?_|refine Xas ?_|refine Xaw ?_|refine Xaz ?_|refine Xa4 ?_|refine Xaf ?_|refine Xaa ?_|refine XaO ?_|refine XaA ?_|refine XaH ?_|refine Xah ?_|refine Xau ?_)|(refine Xal _ rfl (fun h=>?_) (fun h=>?_)<;>((try (simp only [whn] at h));skip))|((apply Xad rfl);(case h=>((try (intro (hp:(_:Bool)=true);((try simp only [Bool.and_eq_true,Bool.not_eq_true',Bool.not_eq_true] at hp);(try simp only [hp,wte]);(try simp only [whn] at hp))));(first|(apply Xab 0 rfl;(first|exact Xar _ rfl|exact Xav _ rfl))|(apply Xab 6 rfl;(exact XaC _ _ _ _ _ rfl rfl XaT.out (by first|exact Xpm rfl|fail) (by first|exact Xpm rfl|fail)))|(apply Xab 7 rfl;(exact XaD _ _ _ _ _ _ _ _ _ _ rfl rfl rfl HEl.out rfl (by first|omega|fail) (by simp;first|omega|fail)))|(apply XaJ;(case hs=>(intro _ _ h;cases h));(case hx=>rfl);(case hrun=>(intro w;simp [wtb,AV.val,go_sem];(try go_bits);rfl))))));(case hT=>((try simp (disch:=assumption) only [wtn,XeI,Xpr,Xpo,Xpp,Xps,Xpw,Nat.reduceAdd,Nat.reduceMul,Nat.reduceSub,↓reduceIte,Nat.reduceEqDiff]);rfl)))|(refine Xak rfl ?_;((refine Xap 11 rfl ?_;(refine Xax g fn H [] _ _ rfl rfl hf hnn hb (by simp) (VwL.refl _ _) (hp.out l[k] (List.getElem_mem h)) ?_;rintro _ _ ⟨rfl,rfl⟩));apply Xai;(case hT=>((try simp (disch:=omega) only [wtn,XeI,Xpr,Xpo,Xpp,Xps,Xpw,Nat.reduceAdd,Nat.reduceMul,Nat.reduceSub,↓reduceIte,Nat.reduceEqDiff]);rfl));(case hH=>((try simp (disch:=omega) only [wtn,XeI,Xpr,Xpo,Xpp,Xps,Xpw,Nat.reduceAdd,Nat.reduceMul,Nat.reduceSub,↓reduceIte,Nat.reduceEqDiff]);rfl))))|fail))
 ·refine Xan _ _ (Xb2 rfl (RV.tmp _) (XaK.mk' [] _ (Xpn _) (XaI.refl _ _) (VwL.refl _ _))) ?_
  exact ⟨k,rfl,rfl,⟨fun _=>List.any_eq_true.2 ⟨_,List.getElem_mem (by assumption),h⟩,fun _=>by omega⟩⟩
 ·exact ⟨k+1,by omega,⟨by omega,by rw [Xbg l k (by assumption),List.any_append,hn.out];simp [h]⟩,(XaK.mk' [] _ (Xpn _) (XaI.refl _ _) (by (repeat' (first|exact VwL.nil|(refine VwL.cons ?_ ?_)|exact Vw.refl _|exact Vw.top _|fail))))⟩
 ·refine Xan _ _ (Xb2 rfl (RV.tmp _) (XaK.mk' [] _ (Xpn _) (XaI.refl _ _) (VwL.refl _ _))) ?_
  have hn:=hn.out
  rw [List.take_of_length_le (by omega)] at hn
  exact ⟨-1,rfl,rfl,by simp [hn]⟩
theorem Xnb (l:List (List UInt8 × List UInt8)) (H:List Hp) (g:Nat) (fn:Func) (cs:Array Value) (p:List UInt8 × List UInt8→Bool) (hl:l.length≤1000000) (hf:Tryz.prog.funcs[g]?=some fn) (hnn:fn.name≠ "runtime.NumGoroutine") (hb:fn.body.isSome=true)
  (hp:∀j∈l,Xbv Tryz.prog g H (.x (.agg #[.string (bs j.1),.string (bs j.2)]) :: cs.toList.map .x) (fun r H'=>r=.x (.bool (p j))∧H'=H)) :
  Xbv Tryz.prog 82 H [.sq l.length (ea l),.x (.func (.func g) #[] cs)] (fun r H'=>r=.x (.bool (l.any p))∧H'=H):=by
 have hp:=Lib.hid hp
 refine XaP Tryz.func82 rfl ?_
 simp only [Tryz.ntmps82,Xpq,Xpt,Xpu,Xpv,Xpy,Xpx,Nat.reduceAdd,Nat.reduceSub]
 (repeat' (first|with_reducible (first|refine Xaj ?_|refine Xac ?_|refine Xaw ?_|refine Xaf ?_|refine Xaa ?_)|((apply Xad rfl);(case h=>((try (intro (hp:(_:Bool)=true);((try simp only [Bool.and_eq_true,Bool.not_eq_true',Bool.not_eq_true] at hp);(try simp only [hp,wte]);(try simp only [whn] at hp))));(first|(apply Xab 0 rfl;(first|exact Xar _ rfl|exact Xav _ rfl))|(apply XaJ;(case hs=>(intro _ _ h;cases h));(case hx=>rfl);(case hrun=>(intro w;simp [wtb,AV.val,go_sem];(try go_bits);rfl))))));(case hT=>((try simp only [wtn,Xpr,Xpo,Xpp,Xps,Xpw,Nat.reduceAdd,Nat.reduceMul,Nat.reduceSub,↓reduceIte,Nat.reduceEqDiff]);rfl)))|(refine Xak rfl ?_;((refine Xap 11 rfl ?_;(refine Xax 94 _ H [] _ _ rfl rfl Tryz.func94 (by decide) rfl (by simp) (VwL.refl _ _) (Xlw l H g fn cs p hl hf hnn hb hp.out) ?_;rintro _ _ ⟨i,rfl,rfl,hi⟩));apply Xai;(case hT=>((try simp only [wtn,Xpr,Xpo,Xpp,Xps,Xpw,Nat.reduceAdd,Nat.reduceMul,Nat.reduceSub,↓reduceIte,Nat.reduceEqDiff]);rfl));(case hH=>((try simp only [wtn,Xpr,Xpo,Xpp,Xps,Xpw,Nat.reduceAdd,Nat.reduceMul,Nat.reduceSub,↓reduceIte,Nat.reduceEqDiff]);rfl))))|fail))
 refine Xan _ _ (Xb2 rfl (RV.tmp _) (XaK.mk' [] _ (Xpn _) (XaI.refl _ _) (VwL.refl _ _))) ?_
 have e:decide (0≤i)=l.any p:=by
  cases h:l.any p with
  | true=>exact decide_eq_true (hi.2 h)
  | false=>exact decide_eq_false (fun hq=>by rw [hi.1 hq] at h;cases h)
 exact ⟨by rw [←e];rfl,rfl⟩
theorem Xnc (tb:Nat) (t:Tok) (v:List UInt8 × List UInt8):Xbv Tryz.prog 83 [.box tb [.x (.int .i64 t.kind),.x (.string (bs t.text)),.x (.int .i64 (t.line:Nat)),.x (.int .i64 (t.col:Nat))]] [.x (.agg #[.string (bs v.1),.string (bs v.2)]),.x (.pointer (some ⟨tb,0,none⟩))] (fun r H'=>r=.x (.bool (v.1 == t.text))∧H'=[.box tb [.x (.int .i64 t.kind),.x (.string (bs t.text)),.x (.int .i64 (t.line:Nat)),.x (.int .i64 (t.col:Nat))]]):=by
 refine XaP Tryz.func83 rfl ?_
 simp only [Tryz.ntmps83,Xpq,Xpt,Xpu,Xpv,Xpy,Xpx,Nat.reduceAdd,Nat.reduceSub]
 (repeat' (first|with_reducible (first|refine Xaj ?_|refine Xac ?_|refine Xaw ?_|refine Xaf ?_|refine Xaa ?_)|((apply Xad rfl);(case h=>((try (intro (hp:(_:Bool)=true);((try simp only [Bool.and_eq_true,Bool.not_eq_true',Bool.not_eq_true] at hp);(try simp only [hp,wte]);(try simp only [whn] at hp))));(first|(apply Xab 0 rfl;(exact Xav _ rfl))|(apply Xab 5 rfl;(exact Xag _ _ _ _ _ _ rfl rfl Xbb.out))|(apply Xab 6 rfl;(exact Xay _ _ _ _ _ _ _ _ rfl rfl Xa0.out XaT.out (by first|exact Xpm rfl|fail) (by first|exact Xpm rfl|fail)))|(apply XaJ;(case hs=>(intro _ _ h;cases h));(case hx=>rfl);(case hrun=>(intro w;simp [wtb,AV.val,go_sem];(try go_bits);rfl))))));(case hT=>((try simp only [wtn,Xpr,Xpo,Xpp,Xps,Xpw,Nat.reduceAdd,Nat.reduceMul,Nat.reduceSub,↓reduceIte,Nat.reduceEqDiff]);rfl)))|(refine Xak rfl ?_;((refine Xap 15 rfl ?_;(refine XbB _ _ rfl (by first|rfl|fail) (fun b=>?_)));apply Xai;(case hT=>((try simp only [wtn,Xpr,Xpo,Xpp,Xps,Xpw,Nat.reduceAdd,Nat.reduceMul,Nat.reduceSub,↓reduceIte,Nat.reduceEqDiff]);rfl));(case hH=>((try simp only [wtn,Xpr,Xpo,Xpp,Xps,Xpw,Nat.reduceAdd,Nat.reduceMul,Nat.reduceSub,↓reduceIte,Nat.reduceEqDiff]);rfl))))|fail))
 refine Xan _ _ (Xb2 rfl (RV.tmp _) (XaK.mk' [_] [_] (Xpn _) (XaI.refl _ _) (by first|exact VwL.refl _ _|fail))) ?_
 exact ⟨rfl,rfl⟩
theorem XoV (pb jb:Nat) (ts:List Tok) (k:Nat) (j:JF) (aE:Option Addr) (cE:Nat) (aN:Option Addr) (cN:Nat) (aL:Option Addr) (cL:Nat) (hk:k < ts.length) (hT:XiJ ts) (hj:j.env.length≤1000000) :
  Xcp Tryz.prog 58 [.box pb (tc ts k),.box jb (jc j aE cE aN cN aL cL),.row aE j.env.length cE 39 2 (ea j.env)] [.x (.pointer (some ⟨pb,0,none⟩)),.x (.pointer (some ⟨jb,0,none⟩))]
   (fun r H'=>∃x a c,r=.x (.tuple #[])∧H'=[.box pb (tc ts (k+3)),.box jb (jc { j with env:=j.env++[x] } a c aN cN aL cL),.row a (j.env++[x]).length c 39 2 (ea (j.env++[x]))]∧Xmp ts k j.env=.ok x∧k+3 < ts.length)
   (fun v _=>∃f,Xmp ts k j.env=.error f∧v=fv f):=by
 have hNm:=fun full=>XjM pb ts k full hk hT.len
 have hl:=hT.len
 have hv:=hT.vt k hk
 have eG:Xmp ts k j.env=Xdw ts k (decide ((16:Int)≤(j.env.length:Nat))) >>= fun t=>if j.env.any (fun v=>v.1 == t.text)=true then .error (flt 5 t) else Xfe ts (k+1) [61] >>= fun _=>Xb0 ts (k+2) 3 512 >>= fun v=>.ok (t.text,v.text):=by rw [Xnr];rfl
 rw [eG]
 clear eG
 unfold Tok.av at hNm
 have hNm':=Lib.hid hNm
 clear hNm
 unfold jc
 refine XbR Tryz.func58 rfl ?_
 simp only [Tryz.ntmps58,Xpq,Xpt,Xpu,Xpv,Xpy,Xpx,Nat.reduceAdd,Nat.reduceSub]
 (repeat' (first|with_reducible (first|refine Xaj ?_|refine Xac ?_|refine Xaf ?_|refine Xaa ?_|refine Xam ?_)|((apply Xad rfl);(case h=>((try (intro (hp:(_:Bool)=true);((try simp only [Bool.and_eq_true,Bool.not_eq_true',Bool.not_eq_true] at hp);(try simp only [hp,wte]);(try simp only [whn] at hp))));(first|(apply Xab 0 rfl;(exact Xar _ rfl))|(apply Xab 4 rfl;(exact XaR _ rfl (by first|exact .inl ⟨_,rfl⟩|fail)))|(apply Xab 5 rfl;(exact Xag _ _ _ _ _ _ rfl rfl Xbb.out))|(apply Xab 6 rfl;(exact Xay _ _ _ _ _ _ _ _ rfl rfl Xa0.out XaT.out (by first|exact Xpm rfl|fail) (by first|exact Xpm rfl|fail)))|(apply XaJ;(case hs=>(intro _ _ h;cases h));(case hx=>rfl);(case hrun=>(intro w;simp [wtb,AV.val,go_sem];(try go_bits);rfl))))));(case hT=>((try simp only [wtn,Xpr,Xpo,Xpp,Xps,Xpw,Nat.reduceAdd,Nat.reduceMul,Nat.reduceSub,↓reduceIte,Nat.reduceEqDiff]);rfl)))|(refine XaM rfl ?_;refine XaG 35 Tryz.f35 [_] _ _ _ _ rfl rfl Tryz.func35 (by decide) rfl (Xpn _) (VwL.refl _ _) (hNm'.out _) ?_ ?_;(case' refine_1=>(rintro _ _ ⟨rfl,rfl,hp,hk1⟩;(apply Xai;(case hT=>((try simp only [wtn,Xpr,Xpo,Xpp,Xps,Xpw,Nat.reduceAdd,Nat.reduceMul,Nat.reduceSub,↓reduceIte,Nat.reduceEqDiff]);rfl));(case hH=>((try simp only [wtn,Xpr,Xpo,Xpp,Xps,Xpw,Nat.reduceAdd,Nat.reduceMul,Nat.reduceSub,↓reduceIte,Nat.reduceEqDiff]);rfl)))));(case' refine_2=>(rintro _ _ ⟨f,hp,rfl⟩)))|(refine Xak rfl ?_;((first|(refine Xap 14 rfl ?_;(refine XaQ _ _ rfl XbK.out rfl (fun b=>?_)))|(refine Xap 16 rfl ?_;(refine Xat _ _ _ _ _ _ _ rfl rfl Xa0.out XaS.out (by first|rfl|fail) (by first|exact Xpm rfl|fail) ?_)));apply Xai;(case hT=>((try simp only [wtn,Xpr,Xpo,Xpp,Xps,Xpw,Nat.reduceAdd,Nat.reduceMul,Nat.reduceSub,↓reduceIte,Nat.reduceEqDiff]);rfl));(case hH=>((try simp only [wtn,Xpr,Xpo,Xpp,Xps,Xpw,Nat.reduceAdd,Nat.reduceMul,Nat.reduceSub,↓reduceIte,Nat.reduceEqDiff]);rfl))))|fail))
 ·(repeat (with_reducible first|refine Xam ?_|fail));refine XaB _ _ (XaK.mk' [] _ (Xpn _) (XaI.refl _ _) VwL.nil) ?_
  exact ⟨f,by rw [hp];rfl,rfl⟩
 have hk2:=hv (by omega)
 have hv2:=hT.vt (k+1) hk2
 (repeat' (first|with_reducible (first|refine Xaj ?_|refine Xac ?_|refine Xaz ?_|refine Xaf ?_|refine Xaa ?_|refine Xam ?_)|(refine Xal _ rfl (fun h=>?_) (fun h=>?_)<;>((try (simp only [whn] at h));skip))|((apply Xad rfl);(case h=>((try (intro (hp:(_:Bool)=true);((try simp only [Bool.and_eq_true,Bool.not_eq_true',Bool.not_eq_true] at hp);(try simp only [hp,wte]);(try simp only [whn] at hp))));(first|(apply Xab 0 rfl;(exact Xar _ rfl))|(apply Xab 6 rfl;(exact Xay _ _ _ _ _ _ _ _ rfl rfl Xa0.out XaT.out (by first|exact Xpm rfl|fail) (by first|exact Xpm rfl|fail))))));(case hT=>((try simp only [wtn,Xpr,Xpo,Xpp,Xps,Xpw,Nat.reduceAdd,Nat.reduceMul,Nat.reduceSub,↓reduceIte,Nat.reduceEqDiff]);rfl)))|(refine XaM rfl ?_;refine XaG 34 Tryz.f34 [] _ _ _ _ rfl rfl Tryz.func34 (by decide) rfl (Xpn _) (VwL.refl _ _) (Xc1 _ ts[k]) ?_ ?_;(case refine_1=>(rintro _ _ ⟨⟩));(case' refine_2=>(rintro _ _ ⟨rfl,rfl⟩)))|(refine XaM rfl ?_;refine XaG 36 Tryz.f36 [_] _ _ _ _ rfl rfl Tryz.func36 (by decide) rfl (XpA (l₁:=[_])) (VwL.refl _ _) (XlV pb ts (k+1) [61] hk2 hl) ?_ ?_;(case' refine_1=>(rintro _ _ ⟨rfl,rfl,hs,hs2⟩;(apply Xai;(case hT=>((try simp only [wtn,Xpr,Xpo,Xpp,Xps,Xpw,Nat.reduceAdd,Nat.reduceMul,Nat.reduceSub,↓reduceIte,Nat.reduceEqDiff]);rfl));(case hH=>((try simp only [wtn,Xpr,Xpo,Xpp,Xps,Xpw,Nat.reduceAdd,Nat.reduceMul,Nat.reduceSub,↓reduceIte,Nat.reduceEqDiff]);rfl)))));(case' refine_2=>(rintro _ _ ⟨f,hs,rfl⟩)))|(refine Xak rfl ?_;((refine Xap 11 rfl ?_;(refine XiT 82 Tryz.f82 [.box b [.x (.int .i64 ts[k].kind),.x (.string (bs ts[k].text)),.x (.int .i64 (ts[k].line:Nat)),.x (.int .i64 (ts[k].col:Nat))]] _ _ _ rfl rfl Tryz.func82 (by decide) rfl (Xpn _) (VwL.cons (Vw.row (List.Mem.tail _ (List.Mem.tail _ (List.Mem.head _))) (VwL.refl _ _)) (VwL.refl _ _)) (Xnb j.env [.box b [.x (.int .i64 ts[k].kind),.x (.string (bs ts[k].text)),.x (.int .i64 (ts[k].line:Nat)),.x (.int .i64 (ts[k].col:Nat))]] 83 Tryz.f83 #[.pointer (some ⟨b,0,none⟩)] (fun v=>v.1 == ts[k].text) hj Tryz.func83 (by decide) rfl (fun v _=>Xnc b ts[k] v)) (by rintro _ _ ⟨rfl,rfl⟩;exact ⟨rfl,by simp [Hp.exb,isX]⟩) ?_;rintro _ _ ⟨rfl,rfl⟩));apply Xai;(case hT=>((try simp only [wtn,Xpr,Xpo,Xpp,Xps,Xpw,Nat.reduceAdd,Nat.reduceMul,Nat.reduceSub,↓reduceIte,Nat.reduceEqDiff]);rfl));(case hH=>((try simp only [wtn,Xpr,Xpo,Xpp,Xps,Xpw,Nat.reduceAdd,Nat.reduceMul,Nat.reduceSub,↓reduceIte,Nat.reduceEqDiff]);rfl))))|fail))
 ·(repeat (with_reducible first|refine Xam ?_|fail));refine XaB _ _ (XaK.mk' [] _ (Xpn _) (XaI.refl _ _) VwL.nil) ?_
  exact ⟨_,by rw [hp];exact if_pos h,rfl⟩
 ·(repeat (with_reducible first|refine Xam ?_|fail));refine XaB _ _ (XaK.mk' [] _ (Xpn _) (XaI.refl _ _) VwL.nil) ?_
  exact ⟨f,by rw [hp];exact (if_neg (by rw [h];decide)).trans (by rw [hs];rfl),rfl⟩
 have hk3:k+2 < ts.length:=Xep hT.vt (k+1) hk2 hs2
 have hTx:=Xkm pb ts (k+2) 3 512 hk3 hl
 have hv3:=hT.vt (k+2) hk3
 refine Xbl mixed [14] [.box b [.x (.int .i64 ts[k].kind),.x (.string (bs ts[k].text)),.x (.int .i64 (ts[k].line:Nat)),.x (.int .i64 (ts[k].col:Nat))],.box jb _] [.box pb _,.row aE _ _ _ _ _] (by (repeat' (first|exact Xpn _|refine (XpA (l₁:=[_])).trans (XpD _ ?_)|fail))) ?_
 (first|(apply Xbm 0 rfl rfl (by kernel_rfl) (fun _ _ _ _ hp=>hp);(case h=>(exact Xbc _ rfl)))|fail);(apply Xae;(case hT=>((try simp only [wtn,Xpr,Xpo,Xpp,Xps,Xpw,Nat.reduceAdd,Nat.reduceMul,Nat.reduceSub,↓reduceIte,Nat.reduceEqDiff]);rfl));(case hH=>rfl));(first|(apply Xbm 1 rfl rfl (by kernel_rfl) (fun _ _ _ _ hp=>hp);(case h=>(exact Xbc _ rfl)))|fail);(apply Xae;(case hT=>((try simp only [wtn,Xpr,Xpo,Xpp,Xps,Xpw,Nat.reduceAdd,Nat.reduceMul,Nat.reduceSub,↓reduceIte,Nat.reduceEqDiff]);rfl));(case hH=>rfl));(first|(apply Xbm 2 rfl rfl (by kernel_rfl) (fun _ _ _ _ hp=>hp);(case h=>(exact XbZ _ _ _ rfl rfl)))|fail);(apply Xae;(case hT=>((try simp only [wtn,Xpr,Xpo,Xpp,Xps,Xpw,Nat.reduceAdd,Nat.reduceMul,Nat.reduceSub,↓reduceIte,Nat.reduceEqDiff]);rfl));(case hH=>rfl));(first|(apply Xbm 3 rfl rfl (by kernel_rfl) (fun _ _ _ _ hp=>hp);(case h=>(exact Xa7 _ _ _ _ _ _ rfl rfl Xbb.out)))|fail);(apply Xae;(case hT=>((try simp only [wtn,Xpr,Xpo,Xpp,Xps,Xpw,Nat.reduceAdd,Nat.reduceMul,Nat.reduceSub,↓reduceIte,Nat.reduceEqDiff]);rfl));(case hH=>rfl));(first|refine Xbf 4 rfl rfl (by kernel_rfl) (fun _ _ _ _ hp=>hp) _ _ _ _ _ _ _ _ rfl rfl Xa0.out XaT.out (by first|exact Xpm rfl|fail) (by first|exact Xpm rfl|fail) ?_|fail);(apply Xae;(case hT=>((try simp only [wtn,Xpr,Xpo,Xpp,Xps,Xpw,Nat.reduceAdd,Nat.reduceMul,Nat.reduceSub,↓reduceIte,Nat.reduceEqDiff]);rfl));(case hH=>rfl));(first|(apply Xbm 5 rfl rfl (by kernel_rfl) (fun _ _ _ _ hp=>hp);(case h=>(exact Xa7 _ _ _ _ _ _ rfl rfl Xbb.out)))|fail);(apply Xae;(case hT=>((try simp only [wtn,Xpr,Xpo,Xpp,Xps,Xpw,Nat.reduceAdd,Nat.reduceMul,Nat.reduceSub,↓reduceIte,Nat.reduceEqDiff]);rfl));(case hH=>rfl));(first|refine Xbf 6 rfl rfl (by kernel_rfl) (fun _ _ _ _ hp=>hp) _ _ _ _ _ _ _ _ rfl rfl Xa0.out XaT.out (by first|exact Xpm rfl|fail) (by first|exact Xpm rfl|fail) ?_|fail);(apply Xae;(case hT=>((try simp only [wtn,Xpr,Xpo,Xpp,Xps,Xpw,Nat.reduceAdd,Nat.reduceMul,Nat.reduceSub,↓reduceIte,Nat.reduceEqDiff]);rfl));(case hH=>rfl));(first|(apply Xbm 7 rfl rfl (by kernel_rfl) (fun _ _ _ _ hp=>hp);(case h=>(exact Xbc _ rfl)))|fail);(apply Xae;(case hT=>((try simp only [wtn,Xpr,Xpo,Xpp,Xps,Xpw,Nat.reduceAdd,Nat.reduceMul,Nat.reduceSub,↓reduceIte,Nat.reduceEqDiff]);rfl));(case hH=>rfl))
 (first|(refine XcE 8 (by decide +kernel) rfl rfl ?_;refine XaG 57 Tryz.f57 [_] _ _ _ _ rfl rfl Tryz.func57 (by decide) rfl (Xpn _) (VwL.refl _ _) (hTx) ?_ ?_;(case' refine_1=>(rintro _ _ ⟨rfl,rfl,hx,hx2⟩;(apply Xae;(case hT=>((try simp only [wtn,Xpr,Xpo,Xpp,Xps,Xpw,Nat.reduceAdd,Nat.reduceMul,Nat.reduceSub,↓reduceIte,Nat.reduceEqDiff]);rfl));(case hH=>((try simp only [wtn,Xpr,Xpo,Xpp,Xps,Xpw,Nat.reduceAdd,Nat.reduceMul,Nat.reduceSub,↓reduceIte,Nat.reduceEqDiff]);rfl)))));(case' refine_2=>(rintro _ _ ⟨f,hx,rfl⟩)))|fail)
 ·(repeat (with_reducible first|refine Xam ?_|fail));refine XaB _ _ (XaK.mk' [] _ (Xpn _) (XaI.refl _ _) VwL.nil) ?_
  exact ⟨f,by rw [hp];exact (if_neg (by rw [h];decide)).trans (by rw [hs];simp only [bind,Except.bind,hx]),rfl⟩
 (refine XaY 9 (by decide +kernel) rfl rfl ?_;(first|(apply XaU;(case h=>(apply Xab 10 rfl;(exact XaZ _ _ _ _ _ rfl HPl.out (by first|rfl|fail) rfl)));(apply Xae;(case hT=>((try simp only [wtn,Xpr,Xpo,Xpp,Xps,Xpw,Nat.reduceAdd,Nat.reduceMul,Nat.reduceSub,↓reduceIte,Nat.reduceEqDiff]);rfl));(case hH=>rfl)))|fail))
 (refine XaY 10 (by decide +kernel) rfl rfl ?_;(first|((refine Xap 17 rfl ?_;(refine XaF _ _ _ _ _ _ _ _ rfl Xa6.out (by first|rfl|fail) rfl (by decide) rfl (fun b=>?_)));apply Xae;(case hT=>((try simp only [wtn,Xpr,Xpo,Xpp,Xps,Xpw,Nat.reduceAdd,Nat.reduceMul,Nat.reduceSub,↓reduceIte,Nat.reduceEqDiff]);rfl));(case hH=>((try simp only [wtn,Xpr,Xpo,Xpp,Xps,Xpw,Nat.reduceAdd,Nat.reduceMul,Nat.reduceSub,↓reduceIte,Nat.reduceEqDiff]);rfl)))|fail))
 (refine XaY 11 (by decide +kernel) rfl rfl ?_;(first|((refine Xap 13 rfl ?_;(refine XaL _ _ _ _ _ _ _ _ _ _ _ _ _ _ rfl rfl XbA.out (Src.row _ rfl XbA.out) Xa6.out (by first|rfl|fail) (Xdj _ _ (by omega) (by decide)) (fun ad cap=>?_)));apply Xae;(case hT=>((try simp only [wtn,Xpr,Xpo,Xpp,Xps,Xpw,Nat.reduceAdd,Nat.reduceMul,Nat.reduceSub,↓reduceIte,Nat.reduceEqDiff]);rfl));(case hH=>((try simp only [wtn,Xpr,Xpo,Xpp,Xps,Xpw,Nat.reduceAdd,Nat.reduceMul,Nat.reduceSub,↓reduceIte,Nat.reduceEqDiff]);rfl)))|fail))
 (repeat ((first|refine XaY 12 (by decide +kernel) rfl rfl ?_|refine XaY 13 (by decide +kernel) rfl rfl ?_|fail);(first|(apply XaU;(case h=>(first|(apply Xab 4 rfl;(exact XaR _ rfl (by first|exact .inl ⟨_,rfl⟩|fail)))|(apply Xab 5 rfl;(exact Xag _ _ _ _ _ _ rfl rfl Xbb.out))));(apply Xae;(case hT=>((try simp only [wtn,Xpr,Xpo,Xpp,Xps,Xpw,Nat.reduceAdd,Nat.reduceMul,Nat.reduceSub,↓reduceIte,Nat.reduceEqDiff]);rfl));(case hH=>rfl)))|fail)))
 refine Xbu (by decide +kernel) ?_
 refine Xao rfl (by simp only [Xpy,Xpx];rfl) ?_
 (refine Xbw 14 (by decide +kernel) rfl rfl ?_;(first|((refine Xap 16 rfl ?_;(refine Xat _ _ _ _ _ _ _ rfl rfl Xa0.out XaS.out (by first|rfl|fail) (by first|exact Xpm rfl|fail) ?_));apply Xao;(case hT=>((try simp only [wtn,Xpr,Xpo,Xpp,Xps,Xpw,Nat.reduceAdd,Nat.reduceMul,Nat.reduceSub,↓reduceIte,Nat.reduceEqDiff]);rfl));(case hH=>((try simp only [wtn,Xpr,Xpo,Xpp,Xps,Xpw,Nat.reduceAdd,Nat.reduceMul,Nat.reduceSub,↓reduceIte,Nat.reduceEqDiff]);rfl)))|fail))
 refine XaV (by decide +kernel) ?_
 (repeat' (first|with_reducible (refine XbP ?_)|fail))
 refine Xbj _ _ (Xeu rfl (XaK.mk' [.box _ [.x (.int .i64 ts[k].kind),.x (.string (bs ts[k].text)),.x (.int .i64 (ts[k].line:Nat)),.x (.int .i64 (ts[k].col:Nat))],.row (some _) 1 1 _ _ _] [.box pb _,.box jb _,.row ad _ cap _ _ _] (by (repeat' (first|exact Xpn _|refine XpD _ ?_|refine (XpA (l₁:=[_])).trans (XpD _ ?_)|fail))) (XaI.refl _ _) VwL.nil)) ⟨(ts[k].text,ts[k+2].text),ad,cap,rfl,?_,?_,?_⟩
 ·simp only [Xnx,Xpz,Xpq,Xpt];rfl
 ·rw [hp]
  exact (if_neg (by rw [h];decide)).trans (by rw [hs];simp only [bind,Except.bind,hx])
 ·exact hv3 (by omega)
end Go.Proofs.YtcmfamgnmehojaaGreatDoor
