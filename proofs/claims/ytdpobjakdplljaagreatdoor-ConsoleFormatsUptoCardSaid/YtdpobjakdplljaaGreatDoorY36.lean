import Derived.Test.YtdpobjakdplljaaGreatDoorY34
import Derived.Test.YtdpobjakdplljaaGreatDoorY18
import Derived.Test.YtdpobjakdplljaaGreatDoorY35
import Derived.Test.YtdpobjakdplljaaGreatDoorY32
import Derived.Test.YtdpobjakdplljaaGreatDoorY8
import Derived.Test.YtdpobjakdplljaaGreatDoorY10
/- The program's scripts: an event of tokens. -/
set_option linter.unusedSimpArgs false
set_option linter.unusedVariables false
set_option maxRecDepth 100000
set_option maxHeartbeats 8000000
namespace Go.Proofs.YtdpobjakdplljaaGreatDoor
open Go.RowKit
def Xhj (k:Nat):List UInt8 × Int × List UInt8:=Xn4.getD k ([],0,[])
theorem XuS (k:Nat) (h:k < 14):XbB.toArray.extract (k*3) (k*3+3)=#[.string (bs (Xhj k).1),.int .i64 (Xhj k).2.1,.string (bs (Xhj k).2.2)]:=by
 match k,h with
 | 0,_=>rfl
 | 1,_=>rfl
 | 2,_=>rfl
 | 3,_=>rfl
 | 4,_=>rfl
 | 5,_=>rfl
 | 6,_=>rfl
 | 7,_=>rfl
 | 8,_=>rfl
 | 9,_=>rfl
 | 10,_=>rfl
 | 11,_=>rfl
 | 12,_=>rfl
 | 13,_=>rfl
theorem XtU (k:Nat) (h:k < 14):∃i,i < 14∧(Xhj k).2.1=(i+1:Nat)∧XbA.getD i []=(Xhj k).1∧Xa2.getD i []=(Xhj k).2.2.map (fun c=>XbE c.toNat)∧∀c∈(Xhj k).2.2,c.toNat < 128∧((c.toNat:Int)=106∨(c.toNat:Int)=119∨(c.toNat:Int)=100∨(c.toNat:Int)=97∨(c.toNat:Int)=99∨(c.toNat:Int)=108∨(c.toNat:Int)=110):=by
 match k,h with
 | 0,_=>exact ⟨0,by decide⟩
 | 1,_=>exact ⟨1,by decide⟩
 | 2,_=>exact ⟨2,by decide⟩
 | 3,_=>exact ⟨3,by decide⟩
 | 4,_=>exact ⟨4,by decide⟩
 | 5,_=>exact ⟨5,by decide⟩
 | 6,_=>exact ⟨6,by decide⟩
 | 7,_=>exact ⟨7,by decide⟩
 | 8,_=>exact ⟨8,by decide⟩
 | 9,_=>exact ⟨9,by decide⟩
 | 10,_=>exact ⟨10,by decide⟩
 | 11,_=>exact ⟨12,by decide⟩
 | 12,_=>exact ⟨11,by decide⟩
 | 13,_=>exact ⟨13,by decide⟩
theorem Xsa (i:Nat) (h:i < 14):∃k,k < 14∧(Xhj k).1=XbA.getD i []:=by
 match i,h with
 | 0,_=>exact ⟨0,by decide⟩
 | 1,_=>exact ⟨1,by decide⟩
 | 2,_=>exact ⟨2,by decide⟩
 | 3,_=>exact ⟨3,by decide⟩
 | 4,_=>exact ⟨4,by decide⟩
 | 5,_=>exact ⟨5,by decide⟩
 | 6,_=>exact ⟨6,by decide⟩
 | 7,_=>exact ⟨7,by decide⟩
 | 8,_=>exact ⟨8,by decide⟩
 | 9,_=>exact ⟨9,by decide⟩
 | 10,_=>exact ⟨10,by decide⟩
 | 11,_=>exact ⟨12,by decide⟩
 | 12,_=>exact ⟨11,by decide⟩
 | 13,_=>exact ⟨13,by decide⟩
section
variable {o:Oper} {ρ:Operand→AV} {H:List Hp}
theorem Xem (ho:o.op=.load 129 (.global 0)):Evl Tryz.prog o ρ H (.x (.agg XbB.toArray)):=by
 intro V a w Kc Q ok hK
 have hf:=ok.gw.forms
 have hg:Tryz.prog.globalNamed "jobmux/console.forms"=some 0:=by kernel_rfl
 simp only [World.var?,hg,Option.bind_some] at hf
 have hcell:∀j u,XbB[j]?=some u→w.cell? ⟨0,0+j,none⟩=some u:=by
  intro j u hj
  rw [Nat.zero_add]
  unfold World.cell?
  cases hb:w.heap[0]? with
  | none=>rw [hb] at hf;cases hf
  | some ob=>
    rw [hb] at hf
    cases ob<;>first|(cases hf;done)|skip|fail
    rename_i cs e fr
    simp only [Option.some.injEq] at hf
    subst hf
    simpa using hj
 obtain ⟨v,hr,hdv⟩:=XbS (P:=Tryz.prog) 129 true 42 (by kernel_rfl) w (fun _=>False) 0 0 (XbB.map .x) XbB XaV.exact hcell (by decide) (fun h=>by cases h)
 have hv:v=.agg XbB.toArray:=by
  have e:ldA true 42 (XbB.map .x)=.x (.agg XbB.toArray):=by rfl
  rw [e,Den] at hdv
  exact hdv
 subst hv
 exact Xej ho rfl hr (hK _ _ (Below.refl _ _) (by rw [Den]))
theorem Xdf {x y:Operand} {i:Int} {k:Nat} (ho:o.op=.index 129 x y) (hx:ρ x=.x (.agg XbB.toArray)) (hy:ρ y=.x (.int .i64 i)) {wd fs:List UInt8} {kd:Int} (hf:Xhj k=(wd,kd,fs)) (hi:i=(k:Int)) (h:k < 14):Evl Tryz.prog o ρ H (.x (.agg #[.string (bs wd),.int .i64 kd,.string (bs fs)])):=by
 subst hi
 intro V a w Kc Q ok hK
 have hu:Tryz.prog.underlying 129=some (.array 14 76):=by kernel_rfl
 obtain ⟨i1,i2⟩:=Xd2 (P:=Tryz.prog) 76 true 3 (by kernel_rfl) w
 have hrun:(Instr.index 129 (.agg XbB.toArray) (.int .i64 (k:Int))).run Tryz.prog w=.ok (.agg #[.string (bs wd),.int .i64 kd,.string (bs fs)]) w:=by
  have hb:(k:Int) < ((14:Nat):Int):=by omega
  have he:=XuS k h
  rw [hf] at he
  simp only [Instr.index,asIntOf,Sem.run_bind,Sem.run_pure,Result.andThen_ok,run_underlying hu,hb,Int.natCast_nonneg,true_and,if_true,i2,Int.toNat_natCast]
  have he':List.take 3 (List.drop (k*3) XbB)=[Value.string (bs wd),Value.int IntKind.i64 kd,Value.string (bs fs)]:=by
   have:=congrArg Array.toList he
   simpa [Array.toList_extract,List.extract_eq_take_drop] using this
  simp [Go.part,i1,i2,he']
 unfold Oper.wp execOp
 simp only [ho,ok.evx (by simp [ho,Op.operands]) hx,ok.evx (by simp [ho,Op.operands]) hy,hrun,Sem.run_bind,Sem.run_pure,Result.andThen_ok,Oper.upon]
 exact hK _ _ (Below.refl _ _) (by rw [Den])
end
theorem XpV (bt:Nat) (wd fs:List UInt8) (kd:Int) (l:List Tok) (h1:1≤l.length):Xa3 Tryz.prog 52 [.box bt [.sq l.length (ta l)]] [.x (.agg #[.string (bs wd),.int .i64 kd,.string (bs fs)]),.x (.pointer (some ⟨bt,0,none⟩))] (fun r H'=>r=.x (.bool (wd == l[0].text))∧H'=[.box bt [.sq l.length (ta l)]]):=by
 have h0:=XjE l 0 (by omega)
 refine XaD Tryz.func52 rfl ?_
 simp only [Tryz.ntmps52,Xvy,XvB,XvC,XvD,XvG,XvF,Nat.reduceAdd,Nat.reduceSub]
 (repeat' (first|with_reducible (first|refine Xag ?_|refine Xac ?_|refine Xar ?_|refine Xae ?_|refine Xch ?_|refine Xaa ?_)|(with_reducible refine Xbe mixed ?_ ?_;(decide +kernel))|((first|apply Xad rfl|apply XbO rfl);(case h=>(first|(apply Xab 0 rfl;(exact Xan _ rfl))|(apply Xab 5 rfl;(first|exact Xal _ _ _ _ _ _ rfl rfl Xa5.out|exact XbV _ _ _ _ _ rfl rfl Xa5.out))|(apply Xab 6 rfl;(first|exact XaF _ _ _ _ _ rfl rfl XaN.out (by first|exact Xvu rfl|fail) (by first|exact Xvu rfl|fail)|exact Xaz _ _ _ _ _ _ _ _ rfl rfl XaS.out XaN.out (by first|exact Xvu rfl|fail) (by first|exact Xvu rfl|fail)))|(apply Xab 7 rfl;(exact XaG _ _ _ _ _ _ _ _ _ _ rfl rfl rfl HEl.out rfl (by first|assumption|fail) (by simp;first|omega|fail)))|(apply XaC;(case hs=>(intro _ _ h;cases h));(case hx=>rfl);(case hrun=>(intro w;simp [wtb,AV.val,go_sem];skip;rfl)))));(case hT=>((try simp (disch:=omega) only [wtn,h0,Xvz,Xvw,Xvx,XvA,XvE,Nat.reduceAdd,Nat.reduceMul,Nat.reduceSub,↓reduceIte,Nat.reduceEqDiff]);rfl)))|(refine Xai rfl ?_;((refine Xas 15 rfl ?_;(refine Xbo _ _ rfl (by first|rfl|fail) (fun b=>?_)));apply Xah;(case hT=>((try simp (disch:=omega) only [wtn,h0,Xvz,Xvw,Xvx,XvA,XvE,Nat.reduceAdd,Nat.reduceMul,Nat.reduceSub,↓reduceIte,Nat.reduceEqDiff]);rfl));(case hH=>((try simp (disch:=omega) only [wtn,h0,Xvz,Xvw,Xvx,XvA,XvE,Nat.reduceAdd,Nat.reduceMul,Nat.reduceSub,↓reduceIte,Nat.reduceEqDiff]);rfl))))|fail))
 refine Xaf _ _ (Xbh rfl (RV.tmp _) (XaH.mk' [_] [_] (Xvv _) (XaB.refl _ _) (VwL.refl _ _))) ?_
 exact ⟨rfl,rfl⟩
def Xlo:AV:=.tup [.x (.agg #[.string (bs []),.int .i64 0,.string (bs [])]),.x (.bool false)]
theorem XtS (bt:Nat) (l:List Tok) (h1:1≤l.length):Xa3 Tryz.prog 31 [.box bt [.sq l.length (ta l)]] [.x (.func (.func 52) #[] #[.pointer (some ⟨bt,0,none⟩)])] (fun r H'=>H'=[.box bt [.sq l.length (ta l)]]∧((∃(k:Nat) (wd:List UInt8) (kd:Int) (fs:List UInt8),k < 14∧Xhj k=(wd,kd,fs)∧wd=l[0].text∧r=.tup [.x (.agg #[.string (bs wd),.int .i64 kd,.string (bs fs)]),.x (.bool true)])∨((∀k,k < 14→(Xhj k).1≠l[0].text)∧r=Xlo))):=by
 refine XaD Tryz.func31 rfl ?_
 simp only [Tryz.ntmps31,Xvy,XvB,XvC,XvD,XvG,XvF,Nat.reduceAdd,Nat.reduceSub]
 (repeat' (first|with_reducible (first|refine Xag ?_|refine Xac ?_|refine Xao ?_|refine Xae ?_|refine Xaa ?_)|((apply Xad rfl);(case h=>(first|(apply Xab 0 rfl;(first|exact Xap _ rfl|exact Xan _ rfl))|(apply Xab 6 rfl;(exact Xem rfl))));(case hT=>((try simp only [wtn]);rfl)))|(refine Xai rfl ?_;((refine Xas 14 rfl ?_;(refine XaK _ _ rfl Xbk.out rfl (fun b=>?_)));apply Xah;(case hT=>((try simp only [wtn]);rfl));(case hH=>((try simp only [wtn]);rfl))))|fail))
 revert b
 intro br
 apply XaQ (S:=Nat) (fun k=>frm 16 [(0,.x (.func (.func 52) #[] #[.pointer (some ⟨bt,0,none⟩)])),(2,.x (.pointer (some ⟨br,0,none⟩))),(3,.x (.bool false)),(6,.x (.agg XbB.toArray)),(7,.x (.int .i64 k))]) (fun _=>[.box br [.x (.string (bs [])),.x (.int .i64 0),.x (.string (bs []))],.box bt [.sq l.length (ta l)]])
  (fun k=>k≤14∧∀i,i < k→(Xhj i).1≠l[0].text) (fun k=>14 - k) 0
 case h0=>exact (XaH.mk' [] _ (Xvv _) (XaB.refl _ _) (by (repeat' (first|exact VwL.nil|(refine VwL.cons ?_ ?_)|exact Vw.refl _|fail))))
 case hi=>exact ⟨Nat.zero_le _,fun i hi=>by omega⟩
 rintro k ⟨k1,hw⟩
 have hw':=Lib.hid hw
 clear hw
 simp only [frm,XvC,XvD,Xvw,Xvx,XvJ,XvK]
 by_cases hk:k < 14
 ·obtain ⟨⟨wd,kd,fs⟩,hfk⟩:∃f,Xhj k=f:=⟨_,rfl⟩
  have he:=XpV bt wd fs kd l h1
  have hfk':=Lib.hid hfk
  clear hfk
  (repeat' (first|with_reducible (first|refine Xag ?_|refine Xac ?_|refine Xao ?_|refine Xar ?_|refine Xau ?_|refine Xae ?_|refine Xaa ?_|refine Xax ?_|refine Xaj ?_|refine Xav ?_)|(refine Xak _ rfl (fun h=>?_) (fun h=>?_)<;>((try (simp only [whn] at h));first|(exfalso;omega;done)|skip))|((apply Xad rfl);(case h=>(first|(apply Xab 0 rfl;(first|exact Xap _ rfl|exact Xan _ rfl))|(apply Xab 6 rfl;(exact Xaz _ _ _ _ _ _ _ _ rfl rfl XaS.out XaN.out (by first|exact Xvu rfl|fail) (by first|exact Xvu rfl|fail)))|(apply Xab 8 rfl;(exact Xdf rfl rfl rfl hfk'.out rfl hk))|(apply XaC;(case hs=>(intro _ _ h;cases h));(case hx=>rfl);(case hrun=>(intro w;simp [wtb,AV.val,go_sem];(try go_bits);rfl)))));(case hT=>((try simp only [wtn,↓reduceIte]);rfl)))|(refine Xai rfl ?_;((first|(refine Xas 11 rfl ?_;(refine Xam 52 Tryz.f52 [_] _ _ _ rfl rfl Tryz.func52 (by decide) rfl (XvI (l₁:=[_,_])) (VwL.refl _ _) (he) ?_;rintro _ _ ⟨rfl,rfl⟩))|(refine Xas 14 rfl ?_;(refine XaK _ _ rfl Xbk.out rfl (fun b=>?_)))|(refine Xas 16 rfl ?_;(refine Xaw _ _ _ _ _ _ _ rfl rfl XaS.out XaR.out (by first|rfl|fail) (by first|exact Xvu rfl|fail) ?_)));apply Xah;(case hT=>((try simp only [wtn]);rfl));(case hH=>((try simp only [wtn,Xvz,Nat.reduceAdd]);rfl))))|fail))
  ·refine Xaf _ _ (XcB rfl (RV.cell 2 rfl rfl XaN.out (by simp) (by simp)) (RV.tmp _) (XaH.mk' [.box b _,.box br _] [.box bt _] (by (repeat' (first|exact Xvv _|refine (XvI (l₁:=[_])).trans (XvL _ ?_)|fail))) (XaB.refl _ _) (VwL.refl _ _))) ?_
   exact ⟨rfl,.inl ⟨k,wd,kd,fs,hk,hfk'.out,h,rfl⟩⟩
  ·have hne:¬wd=l[0].text:=h
   refine ⟨k+1,by omega,⟨by omega,fun i hi=>?_⟩,XaH.mk' [.box b _] [.box br _,.box bt _] (by (repeat' (first|exact Xvv _|refine (XvI (l₁:=[_])).trans (XvL _ ?_)|fail))) (XaB.refl _ _) (by (repeat' (first|exact VwL.nil|(refine VwL.cons ?_ ?_)|exact Vw.refl _|exact Vw.top _|fail)))⟩
   rcases Nat.lt_or_ge i k with h5|h5
   ·exact hw'.out i h5
   ·obtain rfl:i=k:=by omega
    rw [hfk'.out];exact hne
 ·obtain rfl:k=14:=by omega
  (repeat' (first|with_reducible (first|refine Xag ?_|refine Xac ?_|refine Xar ?_|refine XaW ?_|refine Xae ?_|refine Xaa ?_|refine XaL ?_|refine XaJ ?_)|(refine Xak _ rfl (fun h=>?_) (fun h=>?_)<;>first|(exact absurd h (by decide))|((try (simp only [] at h));skip))|((apply Xad rfl);(case h=>(first|(apply Xab 0 rfl;(exact Xan _ rfl))|(apply Xab 10 rfl;(exact Xa1 _ _ _ _ _ rfl HPl.out (by first|rfl|fail) rfl))|(apply XaC;(case hs=>(intro _ _ h;cases h));(case hx=>rfl);(case hrun=>(intro w;simp [wtb,AV.val,go_sem];skip;rfl)))));(case hT=>((try simp only [wtn,↓reduceIte]);rfl)))|(refine Xai rfl ?_;((refine Xas 16 rfl ?_;(refine Xaw _ _ _ _ _ _ _ rfl rfl XaS.out XaR.out (by first|rfl|fail) (by first|exact Xvu rfl|fail) ?_));apply Xah;(case hT=>((try simp only [wtn]);rfl));(case hH=>((try simp only [wtn,Nat.reduceAdd]);rfl))))|fail))
  refine Xaf _ _ (XcB rfl (RV.cell 0 rfl rfl XaN.out (by simp) (by simp)) (RV.tmp _) (XaH.mk' [_] [_] (Xvv _) (XaB.refl _ _) (VwL.refl _ _))) ?_
  exact ⟨rfl,.inr ⟨hw'.out,rfl⟩⟩
theorem Xu5 (be:Nat) (e:EF) (a:Int) (t:Tok) (hlen:t.text.length≤70000) (hN:Xpr t) (hT:t.kind=2→1≤t.text.length) (ha:a=106∨a=119∨a=100∨a=97∨a=99∨a=108∨a=110):Xa3 Tryz.prog 53 [.box be e.cells] [.x (.pointer (some ⟨be,0,none⟩)),.x (.int .i32 a),t.av] (fun r H'=>∃e':EF,r=.x (.bool (XbH (XbE a) t))∧H'=[.box be e'.cells]∧(XbH (XbE a) t=true→e'=XgU e (XbE a) t)):=by
 by_cases hk:t.kind=2
 ·exact Xuk be e a t hlen hN (hT hk) hk ha
 ·exact Xuj be e a t hlen hk ha
theorem XpN (l:List Tok) (h1:1≤l.length) (hl:l.length≤3000) (hN:∀t∈l,Xpr t) (hT:∀t∈l,t.kind=2→1≤t.text.length) (hlen:∀t∈l,t.text.length≤70000):Xa3 Tryz.prog 25 [] [.sq l.length (ta l)] (fun r H'=>r=Xmh (Xcf l)∧H'=[]):=by
 have hN':=Lib.hid hN
 have hT':=Lib.hid hT
 have hlen':=Lib.hid hlen
 clear hN hT hlen
 have h0:=XjE l 0 (by omega)
 refine XhK Tryz.func25 rfl ?_
 simp only [Tryz.ntmps25,Xvy,XvB,XvC,XvD,XvG,XvF,Nat.reduceAdd,Nat.reduceSub]
 have hf:=fun bt=>XtS bt l h1
 refine Xno ?_
 (repeat' (first|with_reducible (first|refine Xag ?_|refine Xac ?_|refine Xar ?_|refine Xau ?_|refine Xae ?_|refine Xaa ?_|refine Xax ?_)|(refine Xak _ rfl (fun h=>?_) (fun h=>?_)<;>((try (simp only [whn] at h));skip))|((apply Xad rfl);(case h=>(first|(apply Xab 0 rfl;(first|exact Xap _ rfl|exact Xan _ rfl))|(apply Xab 5 rfl;(exact XbV _ _ _ _ _ rfl rfl Xa5.out))|(apply Xab 6 rfl;(first|exact XaF _ _ _ _ _ rfl rfl XaN.out (by first|exact Xvu rfl|fail) (by first|exact Xvu rfl|fail)|exact Xaz _ _ _ _ _ _ _ _ rfl rfl XaS.out XaN.out (by first|exact Xvu rfl|fail) (by first|exact Xvu rfl|fail)))|(apply Xab 7 rfl;(exact XaG _ _ _ _ _ _ _ _ _ _ rfl rfl rfl HEl.out rfl (by first|assumption|fail) (by simp;first|omega|fail)))|(apply Xab 10 rfl;(exact Xa1 _ _ _ _ _ rfl HPl.out (by first|rfl|fail) rfl))|(apply XaC;(case hs=>(intro _ _ h;cases h));(case hx=>rfl);(case hrun=>(intro w;simp [wtb,AV.val,go_sem];skip;rfl)))));(case hT=>((try simp (disch:=omega) only [wtn,h0,Xvz,Xvw,Xvx,XvA,XvE,Nat.reduceAdd,Nat.reduceMul,Nat.reduceSub,↓reduceIte,Nat.reduceEqDiff]);rfl)))|(refine Xai rfl ?_;((first|(refine Xas 11 rfl ?_;(refine Xam 31 Tryz.f31 [_] _ _ _ rfl rfl Tryz.func31 (by decide) rfl (XvI (l₁:=[_])) (VwL.refl _ _) (hf _) ?_;rintro _ _ ⟨rfl,hres⟩))|(refine Xas 14 rfl ?_;(refine XaK _ _ rfl Xbk.out rfl (fun b=>?_)))|(refine Xas 15 rfl ?_;(refine Xbo _ _ rfl (by first|rfl|fail) (fun b=>?_)))|(refine Xas 16 rfl ?_;(refine Xaw _ _ _ _ _ _ _ rfl rfl XaS.out XaR.out (by first|rfl|fail) (by first|exact Xvu rfl|fail) ?_)));apply Xah;(case hT=>((try simp (disch:=omega) only [wtn,h0,Xvz,Xvw,Xvx,XvA,XvE,Nat.reduceAdd,Nat.reduceMul,Nat.reduceSub,↓reduceIte,Nat.reduceEqDiff]);rfl));(case hH=>((try simp (disch:=omega) only [wtn,h0,Xvz,Xvw,Xvx,XvA,XvE,Nat.reduceAdd,Nat.reduceMul,Nat.reduceSub,↓reduceIte,Nat.reduceEqDiff]);rfl))))|fail))
 ·refine Xcb (Xaf _ _ (XcB rfl (RV.cell 0 rfl rfl XaN.out (by simp) (by simp)) (RV.tmp _) (XaH.mk' [_,_] [] (Xvv _) XaB.nil (VwL.refl _ _))) ?_)
  refine ⟨?_,rfl⟩
  rw [Xgj h1 (fun q=>absurd q h)]
  rfl
 rcases hres with ⟨k,wd,kd,fs,hk,hfk,hwd,rfl⟩|⟨hno,rfl⟩
 ·obtain ⟨i,hi14,hkd,hcw,hcf,hlet⟩:=XtU k hk
  rw [hfk] at hkd hcw hcf hlet
  simp only at hkd hcw hcf hlet
  subst hkd
  have hat:=XdX h1 (by assumption) hi14 (by rw [hcw];exact hwd)
  rw [hcf,List.length_map] at hat
  have hat':=Lib.hid hat
  have hlet':=Lib.hid hlet
  clear hat hlet hfk hcw hcf
  (repeat' (first|with_reducible (first|refine Xag ?_|refine Xac ?_|refine Xar ?_|refine Xau ?_|refine Xae ?_|refine Xaa ?_|refine Xax ?_)|(refine Xak _ rfl (fun h=>?_) (fun h=>?_)<;>((try (simp only [whn] at h));skip))|((first|apply Xad rfl|apply Xa8 _ _ rfl rfl rfl);(case h=>((try (intro (hp:(_:Bool)=true);((try simp only [Bool.not_eq_true'] at hp);skip;skip)));(first|(apply Xab 0 rfl;(first|exact Xap _ rfl|exact Xan _ rfl))|(apply Xab 1 rfl;(exact Xcs _ _ _ rfl rfl))|(apply Xab 2 rfl;(exact XaM _ _ _ _ rfl rfl rfl))|(apply Xab 3 rfl;(exact XaX _ _ _ _ _ _ HEl.out rfl rfl))|(apply Xab 5 rfl;(exact Xal _ _ _ _ _ _ rfl rfl Xa5.out))|(apply Xab 6 rfl;(exact Xaz _ _ _ _ _ _ _ _ rfl rfl XaS.out XaN.out (by first|exact Xvu rfl|fail) (by first|exact Xvu rfl|fail)))|(apply Xab 10 rfl;(exact Xa1 _ _ _ _ _ rfl HPl.out (by first|rfl|fail) rfl))|(apply XaC;(case hs=>(intro _ _ h;cases h));(case hx=>rfl);(case hrun=>(intro w;simp [wtb,AV.val,go_sem];(try go_bits);rfl))))));(case hT=>((try simp only [wtn,↓reduceIte]);rfl)))|(refine Xai rfl ?_;((first|(refine Xas 14 rfl ?_;(refine XaK _ _ rfl Xbk.out rfl (fun b=>?_)))|(refine Xas 16 rfl ?_;(refine Xaw _ _ _ _ _ _ _ rfl rfl XaS.out XaR.out (by first|rfl|fail) (by first|exact Xvu rfl|fail) ?_)));apply Xah;(case hT=>((try simp only [wtn]);rfl));(case hH=>((try simp only [wtn,Nat.reduceAdd]);rfl))))|fail))
  ·refine Xcb (Xaf _ _ (XcB rfl (RV.cell 2 rfl rfl XaN.out (by simp) (by simp)) (RV.tmp _) (XaH.mk' [_,_,_] [] (Xvv _) XaB.nil (VwL.refl _ _))) ?_)
   refine ⟨?_,rfl⟩
   rw [hat'.out,if_pos (by omega)]
   rfl
  have hlf:l.length=fs.length+1:=by omega
  rename_i bt br hk1 bf
  refine XbG (XbG (XbX ?_))
  (repeat' (first|(apply Xb4 rfl;(case h=>(first|(apply Xab 5 rfl;(exact Xal _ _ _ _ _ _ rfl rfl Xa5.out))|(apply Xab 6 rfl;(exact Xaz _ _ _ _ _ _ _ _ rfl rfl XaS.out XaN.out (by first|exact Xvu rfl|fail) (by first|exact Xvu rfl|fail)))));(case hT=>((try simp only [wtn]);rfl)))|fail))
  refine Xgg rfl rfl rfl (by kernel_rfl) fun kk _=>?_
  refine Xce ?_
  refine Xaa ?_
  refine Xcn ?_
  apply Xdq (S:=Nat × EF) (fun q=>frm 52 [(1,.x (.pointer (some ⟨bt,0,none⟩))),(2,.x (.pointer (some ⟨br,0,none⟩))),(3,.x (.bool false)),(6,.x (.pointer (some ⟨b,0,none⟩))),(37,.x (.pointer (some ⟨kk,0,none⟩)))])
   (fun q=>[.box b q.2.cells,.box bt [.sq l.length (ta l)],.box br [.x (.int .i64 0),.x (.string (bs [])),.x (.bool false),.x (.int .i64 0),.x (.slice none 0 0),.x (.int .u64 0),.x (.int .i64 0),.x (.int .i64 0)]]) (fun q=>[(kk,.stringIter (bs fs) q.1)])
   (fun q=>q.1≤fs.length∧Xcf l=XdA q.2 ((fs.map fun c=>XbE c.toNat).drop q.1) ((l.drop 1).drop q.1)) (fun q=>fs.length - q.1) (0,ev0 (i+1:Nat))
  case h0=>exact XaH.mk' [.box bf _] [.box b _,.box bt _,.box br _] (by (repeat' (first|exact Xvv _|refine (XvI (l₁:=[_])).trans (XvL _ ?_)|fail))) (XaB.cons (VwH.box _ (VwL.cons (Vw.refl _) (VwL.cons (Vw.refl _) (VwL.cons (Vw.refl _) (VwL.cons (Vw.refl _) (VwL.cons Vw.nil (VwL.refl _ _))))))) (XaB.cons (VwH.refl _ _) (XaB.cons (VwH.refl _ _) XaB.nil))) (by (repeat' (first|exact VwL.nil|(refine VwL.cons ?_ ?_)|exact Vw.refl _|exact Vw.top _|fail)))
  case hΘ=>rfl
  case hi=>
   refine ⟨Nat.zero_le _,?_⟩
   rw [hat'.out,if_neg (by omega),List.drop_zero,List.drop_zero]
  rintro ⟨j,ev⟩ ⟨g1,g2⟩
  simp only at g1 g2
  have g2':=Lib.hid g2
  clear g2
  simp only [frm,XvC,XvD,Xvw,Xvx,XvJ,XvK]
  by_cases hj:j < fs.length
  ·obtain ⟨q128,qlet⟩:=hlet'.out fs[j] (List.getElem_mem _)
   have hd:=XjE l (j+1) (by omega)
   have hS:=fun be=>Xu5 be ev (fs[j].toNat:Nat) l[j+1] (hlen'.out _ (List.getElem_mem _)) (hN'.out _ (List.getElem_mem _)) (hT'.out _ (List.getElem_mem _)) qlet
   have hst:=XfB ev (fs.map fun c=>XbE c.toNat) (l.drop 1) j (by simpa using hj) (by simp;omega)
   rw [List.getElem_map,XiQ,show (l.drop 1)[j]'(by simp;omega)=l[j+1] from by simp [Nat.add_comm]] at hst
   have hst':=Lib.hid hst
   clear hst
   unfold Tok.av at hS
   refine XbG (XbX ?_)
   refine Xg9 rfl rfl rfl hj q128 (fun p hp=>by cases hp) ?_
   (repeat' (first|(apply Xb4 rfl;(case h=>(apply XaC;(case hs=>(intro _ _ h;cases h));(case hx=>rfl);(case hrun=>(intro w;simp [wtb,AV.val,go_sem];skip;rfl))));(case hT=>((try simp only [wtn]);rfl)))|fail))
   refine Xce ?_
   refine Xaa ?_
   refine XbW ?_
   (repeat' (first|with_reducible (first|refine Xag ?_|refine Xac ?_|refine Xao ?_|refine Xar ?_|refine Xau ?_|refine Xae ?_|refine Xaa ?_|refine Xax ?_|refine Xaj ?_|refine Xav ?_)|(refine Xak _ rfl (fun h=>?_) (fun h=>?_)<;>first|(exact absurd h (by decide))|((try (simp only [whn] at h));skip))|((apply Xad rfl);(case h=>(first|(apply Xab 0 rfl;(first|exact Xap _ rfl|exact Xan _ rfl))|(apply Xab 6 rfl;(first|exact XaF _ _ _ _ _ rfl rfl XaN.out (by first|exact Xvu rfl|fail) (by first|exact Xvu rfl|fail)|exact Xaz _ _ _ _ _ _ _ _ rfl rfl XaS.out XaN.out (by first|exact Xvu rfl|fail) (by first|exact Xvu rfl|fail)))|(apply Xab 7 rfl;(exact XaG _ _ _ _ _ _ _ _ _ _ rfl rfl rfl HEl.out rfl (by first|omega|fail) (by simp;first|omega|fail)))|(apply Xab 10 rfl;(exact Xa1 _ _ _ _ _ rfl HPl.out (by first|rfl|fail) rfl))|(apply XaC;(case hs=>(intro _ _ h;cases h));(case hx=>rfl);(case hrun=>(intro w;simp [wtb,AV.val,go_sem];(try go_bits);rfl)))));(case hT=>((try simp (disch:=omega) only [wtn,hd,XbP,Xvz,Xvw,Xvx,XvA,XvE,Nat.reduceAdd,Nat.reduceMul,Nat.reduceSub,↓reduceIte,Nat.reduceEqDiff]);rfl)))|(refine Xai rfl ?_;((first|(refine Xas 11 rfl ?_;(refine Xam 53 Tryz.f53 [_] _ _ _ rfl rfl Tryz.func53 (by decide) rfl (Xvv _) (VwL.refl _ _) (hS _) ?_;rintro _ _ ⟨e',rfl,rfl,he'⟩))|(refine Xas 16 rfl ?_;(refine Xaw _ _ _ _ _ _ _ rfl rfl XaS.out XaR.out (by first|rfl|fail) (by first|exact Xvu rfl|fail) ?_)));apply Xah;(case hT=>((try simp (disch:=omega) only [wtn,hd,XbP,Xvz,Xvw,Xvx,XvA,XvE,Nat.reduceAdd,Nat.reduceMul,Nat.reduceSub,↓reduceIte,Nat.reduceEqDiff]);rfl));(case hH=>((try simp (disch:=omega) only [wtn,hd,XbP,Xvz,Xvw,Xvx,XvA,XvE,Nat.reduceAdd,Nat.reduceMul,Nat.reduceSub,↓reduceIte,Nat.reduceEqDiff]);rfl))))|fail))
   ·first
     | refine Xcb (Xaf _ _ (XcB rfl (RV.cell 0 rfl rfl XaN.out (by simp;done) (by simp;done)) (RV.tmp _) (XaH.mk' [_,_,_] [] (Xvv _) XaB.nil (VwL.refl _ _))) ?_)
     | refine Xcb (Xaf _ _ (XcB rfl (RV.cell 1 rfl rfl XaN.out (by simp;done) (by simp;done)) (RV.tmp _) (XaH.mk' [_,_,_] [] (Xvv _) XaB.nil (VwL.refl _ _))) ?_)
     | refine Xcb (Xaf _ _ (XcB rfl (RV.cell 2 rfl rfl XaN.out (by simp;done) (by simp;done)) (RV.tmp _) (XaH.mk' [_,_,_] [] (Xvv _) XaB.nil (VwL.refl _ _))) ?_)
    refine ⟨?_,rfl⟩
    rw [g2'.out,hst'.out,h]
    rfl
   ·have h':=h
    have e2:=he' h'
    subst e2
    refine ⟨rfl,(j+1,XgU ev (XbE (fs[j].toNat:Nat)) l[j+1]),by simp only;omega,⟨by simp only;omega,?_⟩,rfl,?_⟩
    ·simp only
     rw [g2'.out,hst'.out,h']
     rfl
    ·exact (XaH.mk' [] _ (Xvv _) (XaB.refl _ _) (by (repeat' (first|exact VwL.nil|(refine VwL.cons ?_ ?_)|exact Vw.refl _|exact Vw.top _|fail))))
  ·refine XbG (XbX ?_)
   refine Xha rfl rfl rfl hj ?_
   (repeat' (first|(apply Xb4 rfl;(case h=>(apply XaC;(case hs=>(intro _ _ h;cases h));(case hx=>rfl);(case hrun=>(intro w;simp [wtb,AV.val,go_sem];skip;rfl))));(case hT=>((try simp only [wtn]);rfl)))|fail))
   refine Xce ?_
   refine Xaa ?_
   refine XbW ?_
   (repeat' (first|with_reducible (first|refine Xag ?_|refine XaW ?_|refine Xaa ?_|refine XaL ?_|refine XaJ ?_)|(refine Xak _ rfl (fun h=>?_) (fun h=>?_)<;>first|(exact absurd h (by decide))|((try (simp only [] at h));skip))|fail))
   refine XbW ?_
   unfold EF.cells
   (repeat' (first|with_reducible (first|refine Xag ?_|refine Xac ?_|refine Xar ?_|refine Xae ?_|refine Xaa ?_)|((apply Xad rfl);(case h=>(first|(apply Xab 0 rfl;(exact Xan _ rfl))|(apply Xab 6 rfl;(exact Xaz _ _ _ _ _ _ _ _ rfl rfl XaS.out XaN.out (by first|exact Xvu rfl|fail) (by first|exact Xvu rfl|fail)))));(case hT=>((try simp only [wtn,↓reduceIte]);rfl)))|(refine Xai rfl ?_;((refine Xas 16 rfl ?_;(refine Xaw _ _ _ _ _ _ _ rfl rfl XaS.out XaR.out (by first|rfl|fail) (by first|exact Xvu rfl|fail) ?_));apply Xah;(case hT=>((try simp only [wtn]);rfl));(case hH=>((try simp only [wtn,Nat.reduceAdd]);rfl))))|fail))
   first
    | refine Xcb (Xaf _ _ (XcB rfl (RV.cell 0 rfl rfl XaN.out (by simp;done) (by simp;done)) (RV.tmp _) (XaH.mk' [_,_,_] [] (Xvv _) XaB.nil (VwL.refl _ _))) ?_)
    | refine Xcb (Xaf _ _ (XcB rfl (RV.cell 1 rfl rfl XaN.out (by simp;done) (by simp;done)) (RV.tmp _) (XaH.mk' [_,_,_] [] (Xvv _) XaB.nil (VwL.refl _ _))) ?_)
    | refine Xcb (Xaf _ _ (XcB rfl (RV.cell 2 rfl rfl XaN.out (by simp;done) (by simp;done)) (RV.tmp _) (XaH.mk' [_,_,_] [] (Xvv _) XaB.nil (VwL.refl _ _))) ?_)
   refine ⟨?_,rfl⟩
   rw [g2'.out,List.drop_of_length_le (by simp;omega)]
   rfl
 ·have hno':=Lib.hid hno
  clear hno
  unfold Xlo
  (repeat' (first|with_reducible (first|refine Xag ?_|refine Xac ?_|refine Xar ?_|refine Xae ?_|refine Xaa ?_|refine Xax ?_)|(refine Xak _ rfl (fun h=>?_) (fun h=>?_)<;>first|(exact absurd h (by decide))|((try (simp only [] at h));skip))|((apply Xfe rfl rfl rfl);(case hT=>((try simp only [wtn]);rfl)))|((apply Xad rfl);(case h=>(first|(apply Xab 0 rfl;(first|exact Xap _ rfl|exact Xan _ rfl))|(apply Xab 1 rfl;(exact XcQ _ _ _ rfl rfl))|(apply Xab 2 rfl;(exact XaM _ _ _ _ rfl rfl rfl))|(apply Xab 10 rfl;(exact Xa1 _ _ _ _ _ rfl HPl.out (by first|rfl|fail) rfl))|(apply XaC;(case hs=>(intro _ _ h;cases h));(case hx=>rfl);(case hrun=>(intro w;simp [wtb,AV.val,go_sem];skip;rfl)))));(case hT=>((try simp only [wtn,↓reduceIte]);rfl)))|(refine Xai rfl ?_;((first|(refine Xas 14 rfl ?_;(refine XaK _ _ rfl Xbk.out rfl (fun b=>?_)))|(refine Xas 16 rfl ?_;(refine Xaw _ _ _ _ _ _ _ rfl rfl XaS.out XaR.out (by first|rfl|fail) (by first|exact Xvu rfl|fail) ?_)));apply Xah;(case hT=>((try simp only [wtn]);rfl));(case hH=>((try simp only [wtn,Nat.reduceAdd]);rfl))))|fail))
  refine Xcb (Xaf _ _ (XcB rfl (RV.cell 2 rfl rfl XaN.out (by simp) (by simp)) (RV.tmp _) (XaH.mk' [_,_,_] [] (Xvv _) XaB.nil (VwL.refl _ _))) ?_)
  refine ⟨?_,rfl⟩
  rw [Xgj h1 (fun _ i hi e=>by obtain ⟨k,hk,hw⟩:=Xsa i hi;exact hno'.out k hk (by rw [hw];exact e))]
  rfl
open Go.RowKit
def XfQ (f:Nat) (p:UInt8→Bool):Prop:=∀b:UInt8,Xa3 Tryz.prog f [] [.x (.int .u8 (b.toNat:Nat))] (fun r H'=>r=.x (.bool (p b))∧H'=[])
def Xtp (b:UInt8):Int:=match XgV b with|some n=>(n:Int)|none => -1
theorem Xi5 {b:UInt8} {n:Nat} (h:XgV b=some n):Xtp b=n:=by unfold Xtp;rw [h]
theorem Xi4 {b:UInt8} (h:XgV b=none):Xtp b = -1:=by unfold Xtp;rw [h]
theorem Xhl:XfQ 121 Xb6:=by
 intro b
 refine XaD Tryz.func121 rfl ?_
 simp only [Tryz.ntmps121,Xvy,XvB,XvC,XvD,XvG,XvF,Nat.reduceAdd,Nat.reduceSub]
 (repeat' (first|with_reducible (first|refine Xag ?_|refine Xac ?_|refine Xar ?_|refine Xae ?_|refine Xaa ?_)|((first|apply Xad rfl|apply Xa8 _ _ rfl rfl rfl);(case h=>((try (intro (hp:(_:Bool)=true);((try simp only [Bool.and_eq_true,Bool.not_eq_true'] at hp);(try simp only [hp,wte]);(try simp only [whn] at hp))));(first|(apply Xab 0 rfl;(first|exact Xap _ rfl|exact Xan _ rfl))|(apply Xab 1 rfl;(first|exact XbC _ _ _ _ _ rfl rfl rfl rfl|exact XdJ _ _ _ _ _ rfl rfl rfl rfl|exact XkZ _ _ _ _ _ rfl rfl rfl rfl))|(apply XaC;(case hs=>(intro _ _ h;cases h));(case hx=>rfl);(case hrun=>(intro w;simp [wtb,AV.val,go_sem];skip;rfl))))));(case hT=>((try simp only [wtn]);rfl)))|fail))
 refine Xaf _ _ (Xbh rfl (RV.tmp _) (XaH.mk' [] _ (Xvv _) (XaB.refl _ _) (VwL.refl _ _))) ?_
 refine ⟨?_,rfl⟩
 simp only [ev,List.getD_cons_succ,List.getD_cons_zero]
 congr 2
 rw [Bool.eq_iff_iff]
 unfold Xb6
 simp only [Bool.and_eq_true,Bool.or_eq_true,decide_eq_true_eq,beq_iff_eq]
 omega
theorem Xgt:XfQ 124 Xbi:=by
 intro b
 refine XaD Tryz.func124 rfl ?_
 simp only [Tryz.ntmps124,Xvy,XvB,XvC,XvD,XvG,XvF,Nat.reduceAdd,Nat.reduceSub]
 (repeat' (first|with_reducible (first|refine Xag ?_|refine Xac ?_|refine Xar ?_|refine Xae ?_|refine Xaa ?_)|((first|apply Xad rfl|apply Xa8 _ _ rfl rfl rfl);(case h=>((try (intro (hp:(_:Bool)=true);((try simp only [hp]);(try simp only [whn] at hp))));(first|(apply Xab 0 rfl;(first|exact Xap _ rfl|exact Xan _ rfl))|(apply Xab 1 rfl;(exact XbC _ _ _ _ _ rfl rfl rfl rfl))|(apply XaC;(case hs=>(intro _ _ h;cases h));(case hx=>rfl);(case hrun=>(intro w;simp [wtb,AV.val,go_sem];skip;rfl))))));(case hT=>((try simp only [wtn]);rfl)))|fail))
 refine Xaf _ _ (Xbh rfl (RV.tmp _) (XaH.mk' [] _ (Xvv _) (XaB.refl _ _) (VwL.refl _ _))) ?_
 refine ⟨?_,rfl⟩
 simp only [ev,List.getD_cons_succ,List.getD_cons_zero]
 congr 2
 rw [Bool.eq_iff_iff]
 unfold Xbi
 simp only [Bool.and_eq_true,decide_eq_true_eq]
 omega
theorem Xqc:XfQ 123 Xcq:=by
 intro b
 refine XaD Tryz.func123 rfl ?_
 simp only [Tryz.ntmps123,Xvy,XvB,XvC,XvD,XvG,XvF,Nat.reduceAdd,Nat.reduceSub]
 (repeat' (first|with_reducible (first|refine Xag ?_|refine Xac ?_|refine Xar ?_|refine Xae ?_|refine Xaa ?_)|((first|apply Xad rfl|apply Xa8 _ _ rfl rfl rfl);(case h=>((try (intro (hp:(_:Bool)=true);((try simp only [Bool.not_eq_true'] at hp);(try simp only [hp,wte]);(try simp only [whn] at hp))));(first|(apply Xab 0 rfl;(first|exact Xap _ rfl|exact Xan _ rfl))|(apply Xab 1 rfl;(exact XdJ _ _ _ _ _ rfl rfl rfl rfl))|(apply Xab 11 rfl;(first|exact Xay 121 Tryz.f121 _ _ rfl rfl Tryz.func121 (by decide) rfl (VwL.refl _ _) (Xhl b)|exact Xay 124 Tryz.f124 _ _ rfl rfl Tryz.func124 (by decide) rfl (VwL.refl _ _) (Xgt b)))|(apply XaC;(case hs=>(intro _ _ h;cases h));(case hx=>rfl);(case hrun=>(intro w;simp [wtb,AV.val,go_sem];skip;rfl))))));(case hT=>((try simp only [wtn]);rfl)))|fail))
 refine Xaf _ _ (Xbh rfl (RV.tmp _) (XaH.mk' [] _ (Xvv _) (XaB.refl _ _) (VwL.refl _ _))) ?_
 refine ⟨?_,rfl⟩
 simp only [ev,List.getD_cons_succ,List.getD_cons_zero]
 congr 2
 rw [Bool.eq_iff_iff]
 unfold Xcq
 simp only [Bool.or_eq_true,decide_eq_true_eq,beq_iff_eq]
 rcases Bool.eq_false_or_eq_true (Xb6 b) with h1|h1<;>rcases Bool.eq_false_or_eq_true (Xbi b) with h2|h2<;>simp [h1,h2]<;>omega
theorem XtV (b:UInt8):Xa3 Tryz.prog 183 [] [.x (.int .u8 (b.toNat:Nat))] (fun r H'=>r=.x (.int .i64 (Xtp b))∧H'=[]):=by
 have hb:=b.toNat_lt
 refine XaD Tryz.func183 rfl ?_
 simp only [Tryz.ntmps183,Xvy,XvB,XvC,XvD,XvG,XvF,Nat.reduceAdd,Nat.reduceSub]
 (repeat' (first|with_reducible (first|refine Xag ?_|refine Xac ?_|refine Xao ?_|refine Xar ?_|refine Xau ?_|refine Xae ?_|refine Xaa ?_|refine Xax ?_|refine Xaj ?_|refine Xav ?_)|(refine Xak _ rfl (fun h=>?_) (fun h=>?_)<;>((try (simp only [whn] at h));skip))|((first|apply Xad rfl|apply Xa8 _ _ rfl rfl rfl);(case h=>((try (intro (hp:(_:Bool)=true);((try simp only [hp]);(try simp only [whn] at hp))));(first|(apply Xab 0 rfl;(first|exact Xap _ rfl|exact Xan _ rfl))|(apply Xab 1 rfl;(exact XbC _ _ _ _ _ rfl rfl rfl rfl))|(apply XaC;(case hs=>(intro _ _ h;cases h));(case hx=>rfl);(case hrun=>(intro w;simp [wtb,AV.val,go_sem];(try go_bits);rfl))))));(case hT=>((try simp only [wtn]);rfl)))|fail))
 all_goals
  refine Xaf _ _ (Xbh rfl (RV.tmp _) (XaH.mk' [] _ (Xvv _) (XaB.refl _ _) (VwL.refl _ _))) ?_
  refine ⟨?_,rfl⟩
  simp only [ev,List.getD_cons_succ,List.getD_cons_zero]
  congr 2
  unfold Xtp XgV
  first
   | (rw [if_pos (by omega)];simp only;omega)
   | (rw [if_neg (by omega),if_pos (by omega)];simp only;omega)
   | (rw [if_neg (by omega),if_neg (by omega),if_pos (by omega)];simp only;omega)
   | (rw [if_neg (by omega),if_neg (by omega),if_neg (by omega)])
end Go.Proofs.YtdpobjakdplljaaGreatDoor
