import Derived.Test.YtdpobjakdplljaaGreatDoorV32
import Derived.Test.YtdpobjakdplljaaGreatDoorV16
import Derived.Test.YtdpobjakdplljaaGreatDoorV33
import Derived.Test.YtdpobjakdplljaaGreatDoorV29
import Derived.Test.YtdpobjakdplljaaGreatDoorV8
import Derived.Test.YtdpobjakdplljaaGreatDoorV10
/- The program's scripts: an event of tokens. -/
set_option linter.unusedSimpArgs false
set_option linter.unusedVariables false
set_option maxRecDepth 100000
set_option maxHeartbeats 8000000
namespace Go.Proofs.YtdpobjakdplljaaGreatDoor
open Go.RowKit
def Xhg (k:Nat):List UInt8 × Int × List UInt8:=Xn1.getD k ([],0,[])
theorem Xuu (k:Nat) (h:k < 14):Xby.toArray.extract (k*3) (k*3+3)=#[.string (bs (Xhg k).1),.int .i64 (Xhg k).2.1,.string (bs (Xhg k).2.2)]:=by
 match k,h with
 | 0,_=>rfl
 | 1,_=>rfl
 | 2,_=>rfl
 | 3,_=>rfl
 | 4,_=>rfl
 | 5,_=>rfl
 | 6,_=>rfl
 | 7,_=>rfl
 | 8,_=>rfl
 | 9,_=>rfl
 | 10,_=>rfl
 | 11,_=>rfl
 | 12,_=>rfl
 | 13,_=>rfl
theorem Xtv (k:Nat) (h:k < 14):∃i,i < 14∧(Xhg k).2.1=(i+1:Nat)∧XcU.getD i []=(Xhg k).1∧Xa6.getD i []=(Xhg k).2.2.map (fun c=>XbA c.toNat)∧∀c∈(Xhg k).2.2,c.toNat < 128∧((c.toNat:Int)=106∨(c.toNat:Int)=119∨(c.toNat:Int)=100∨(c.toNat:Int)=97∨(c.toNat:Int)=99∨(c.toNat:Int)=108∨(c.toNat:Int)=110):=by
 match k,h with
 | 0,_=>exact ⟨0,by decide⟩
 | 1,_=>exact ⟨1,by decide⟩
 | 2,_=>exact ⟨2,by decide⟩
 | 3,_=>exact ⟨3,by decide⟩
 | 4,_=>exact ⟨4,by decide⟩
 | 5,_=>exact ⟨5,by decide⟩
 | 6,_=>exact ⟨6,by decide⟩
 | 7,_=>exact ⟨7,by decide⟩
 | 8,_=>exact ⟨8,by decide⟩
 | 9,_=>exact ⟨9,by decide⟩
 | 10,_=>exact ⟨10,by decide⟩
 | 11,_=>exact ⟨12,by decide⟩
 | 12,_=>exact ⟨11,by decide⟩
 | 13,_=>exact ⟨13,by decide⟩
theorem XrU (i:Nat) (h:i < 14):∃k,k < 14∧(Xhg k).1=XcU.getD i []:=by
 match i,h with
 | 0,_=>exact ⟨0,by decide⟩
 | 1,_=>exact ⟨1,by decide⟩
 | 2,_=>exact ⟨2,by decide⟩
 | 3,_=>exact ⟨3,by decide⟩
 | 4,_=>exact ⟨4,by decide⟩
 | 5,_=>exact ⟨5,by decide⟩
 | 6,_=>exact ⟨6,by decide⟩
 | 7,_=>exact ⟨7,by decide⟩
 | 8,_=>exact ⟨8,by decide⟩
 | 9,_=>exact ⟨9,by decide⟩
 | 10,_=>exact ⟨10,by decide⟩
 | 11,_=>exact ⟨12,by decide⟩
 | 12,_=>exact ⟨11,by decide⟩
 | 13,_=>exact ⟨13,by decide⟩
section
variable {o:Oper} {ρ:Operand→AV} {H:List Hp}
theorem Xem (ho:o.op=.load 129 (.global 0)):Evl Tryz.prog o ρ H (.x (.agg Xby.toArray)):=by
 intro V a w Kc Q ok hK
 have hf:=ok.gw.forms
 have hg:Tryz.prog.globalNamed "jobmux/console.forms"=some 0:=by kernel_rfl
 simp only [World.var?,hg,Option.bind_some] at hf
 have hcell:∀j u,Xby[j]?=some u→w.cell? ⟨0,0+j,none⟩=some u:=by
  intro j u hj
  rw [Nat.zero_add]
  unfold World.cell?
  cases hb:w.heap[0]? with
  | none=>rw [hb] at hf;cases hf
  | some ob=>
    rw [hb] at hf
    cases ob<;>first|(cases hf;done)|skip|fail
    rename_i cs e fr
    simp only [Option.some.injEq] at hf
    subst hf
    simpa using hj
 obtain ⟨v,hr,hdv⟩:=XbK (P:=Tryz.prog) 129 true 42 (by kernel_rfl) w (fun _=>False) 0 0 (Xby.map .x) Xby XaT.exact hcell (by decide) (fun h=>by cases h)
 have hv:v=.agg Xby.toArray:=by
  have e:ldA true 42 (Xby.map .x)=.x (.agg Xby.toArray):=by rfl
  rw [e,Den] at hdv
  exact hdv
 subst hv
 exact Xeh ho rfl hr (hK _ _ (Below.refl _ _) (by rw [Den]))
theorem Xdb {x y:Operand} {i:Int} {k:Nat} (ho:o.op=.index 129 x y) (hx:ρ x=.x (.agg Xby.toArray)) (hy:ρ y=.x (.int .i64 i)) {wd fs:List UInt8} {kd:Int} (hf:Xhg k=(wd,kd,fs)) (hi:i=(k:Int)) (h:k < 14):Evl Tryz.prog o ρ H (.x (.agg #[.string (bs wd),.int .i64 kd,.string (bs fs)])):=by
 subst hi
 intro V a w Kc Q ok hK
 have hu:Tryz.prog.underlying 129=some (.array 14 76):=by kernel_rfl
 obtain ⟨i1,i2⟩:=XdZ (P:=Tryz.prog) 76 true 3 (by kernel_rfl) w
 have hrun:(Instr.index 129 (.agg Xby.toArray) (.int .i64 (k:Int))).run Tryz.prog w=.ok (.agg #[.string (bs wd),.int .i64 kd,.string (bs fs)]) w:=by
  have hb:(k:Int) < ((14:Nat):Int):=by omega
  have he:=Xuu k h
  rw [hf] at he
  simp only [Instr.index,asIntOf,Sem.run_bind,Sem.run_pure,Result.andThen_ok,run_underlying hu,hb,Int.natCast_nonneg,true_and,if_true,i2,Int.toNat_natCast]
  have he':List.take 3 (List.drop (k*3) Xby)=[Value.string (bs wd),Value.int IntKind.i64 kd,Value.string (bs fs)]:=by
   have:=congrArg Array.toList he
   simpa [Array.toList_extract,List.extract_eq_take_drop] using this
  simp [Go.part,i1,i2,he']
 unfold Oper.wp execOp
 simp only [ho,ok.evx (by simp [ho,Op.operands]) hx,ok.evx (by simp [ho,Op.operands]) hy,hrun,Sem.run_bind,Sem.run_pure,Result.andThen_ok,Oper.upon]
 exact hK _ _ (Below.refl _ _) (by rw [Den])
end
theorem XpS (bt:Nat) (wd fs:List UInt8) (kd:Int) (l:List Tok) (h1:1≤l.length):Xa8 Tryz.prog 52 [.box bt [.sq l.length (ta l)]] [.x (.agg #[.string (bs wd),.int .i64 kd,.string (bs fs)]),.x (.pointer (some ⟨bt,0,none⟩))] (fun r H'=>r=.x (.bool (wd == l[0].text))∧H'=[.box bt [.sq l.length (ta l)]]):=by
 have h0:=Xpj l 0 (by omega)
 refine XaE Tryz.func52 rfl ?_
 simp only [Tryz.ntmps52,Xu8,Xvb,Xvc,Xvd,Xvg,Xvf,Nat.reduceAdd,Nat.reduceSub]
 (repeat' (first|with_reducible (first|refine Xai ?_|refine Xac ?_|refine Xas ?_|refine Xae ?_|refine Xcd ?_|refine Xaa ?_)|(with_reducible refine Xbc mixed ?_ ?_;(decide +kernel))|((first|apply Xad rfl|apply XbG rfl);(case h=>(first|(apply Xab 0 rfl;(exact Xap _ rfl))|(apply Xab 5 rfl;(first|exact Xam _ _ _ _ _ _ rfl rfl Xa3.out|exact XbY _ _ _ _ _ rfl rfl Xa3.out))|(apply Xab 6 rfl;(first|exact XaG _ _ _ _ _ rfl rfl XaM.out (by first|exact Xu4 rfl|fail) (by first|exact Xu4 rfl|fail)|exact Xaz _ _ _ _ _ _ _ _ rfl rfl XaU.out XaM.out (by first|exact Xu4 rfl|fail) (by first|exact Xu4 rfl|fail)))|(apply Xab 7 rfl;(exact XaI _ _ _ _ _ _ _ _ _ _ rfl rfl rfl HEl.out rfl (by first|assumption|fail) (by simp;first|omega|fail)))|(apply XaD;(case hs=>(intro _ _ h;cases h));(case hx=>rfl);(case hrun=>(intro w;simp [wtb,AV.val,go_sem];skip;rfl)))));(case hT=>((try simp (disch:=omega) only [wtn,h0,Xu9,Xu6,Xu7,Xva,Xve,Nat.reduceAdd,Nat.reduceMul,Nat.reduceSub,↓reduceIte,Nat.reduceEqDiff]);rfl)))|(refine Xah rfl ?_;((refine Xaq 15 rfl ?_;(refine Xbx _ _ rfl (by first|rfl|fail) (fun b=>?_)));apply Xag;(case hT=>((try simp (disch:=omega) only [wtn,h0,Xu9,Xu6,Xu7,Xva,Xve,Nat.reduceAdd,Nat.reduceMul,Nat.reduceSub,↓reduceIte,Nat.reduceEqDiff]);rfl));(case hH=>((try simp (disch:=omega) only [wtn,h0,Xu9,Xu6,Xu7,Xva,Xve,Nat.reduceAdd,Nat.reduceMul,Nat.reduceSub,↓reduceIte,Nat.reduceEqDiff]);rfl))))|fail))
 refine Xaf _ _ (Xbi rfl (RV.tmp _) (XaH.mk' [_] [_] (Xu5 _) (XaB.refl _ _) (VwL.refl _ _))) ?_
 exact ⟨rfl,rfl⟩
def Xlm:AV:=.tup [.x (.agg #[.string (bs []),.int .i64 0,.string (bs [])]),.x (.bool false)]
theorem Xtt (bt:Nat) (l:List Tok) (h1:1≤l.length):Xa8 Tryz.prog 31 [.box bt [.sq l.length (ta l)]] [.x (.func (.func 52) #[] #[.pointer (some ⟨bt,0,none⟩)])] (fun r H'=>H'=[.box bt [.sq l.length (ta l)]]∧((∃(k:Nat) (wd:List UInt8) (kd:Int) (fs:List UInt8),k < 14∧Xhg k=(wd,kd,fs)∧wd=l[0].text∧r=.tup [.x (.agg #[.string (bs wd),.int .i64 kd,.string (bs fs)]),.x (.bool true)])∨((∀k,k < 14→(Xhg k).1≠l[0].text)∧r=Xlm))):=by
 refine XaE Tryz.func31 rfl ?_
 simp only [Tryz.ntmps31,Xu8,Xvb,Xvc,Xvd,Xvg,Xvf,Nat.reduceAdd,Nat.reduceSub]
 (repeat' (first|with_reducible (first|refine Xai ?_|refine Xac ?_|refine Xat ?_|refine Xae ?_|refine Xaa ?_)|((apply Xad rfl);(case h=>(first|(apply Xab 0 rfl;(first|exact Xar _ rfl|exact Xap _ rfl))|(apply Xab 6 rfl;(exact Xem rfl))));(case hT=>((try simp only [wtn]);rfl)))|(refine Xah rfl ?_;((refine Xaq 14 rfl ?_;(refine XaJ _ _ rfl Xbl.out rfl (fun b=>?_)));apply Xag;(case hT=>((try simp only [wtn]);rfl));(case hH=>((try simp only [wtn]);rfl))))|fail))
 revert b
 intro br
 apply XaW (S:=Nat) (fun k=>frm 16 [(0,.x (.func (.func 52) #[] #[.pointer (some ⟨bt,0,none⟩)])),(2,.x (.pointer (some ⟨br,0,none⟩))),(3,.x (.bool false)),(6,.x (.agg Xby.toArray)),(7,.x (.int .i64 k))]) (fun _=>[.box br [.x (.string (bs [])),.x (.int .i64 0),.x (.string (bs []))],.box bt [.sq l.length (ta l)]])
  (fun k=>k≤14∧∀i,i < k→(Xhg i).1≠l[0].text) (fun k=>14 - k) 0
 case h0=>exact (XaH.mk' [] _ (Xu5 _) (XaB.refl _ _) (by (repeat' (first|exact VwL.nil|(refine VwL.cons ?_ ?_)|exact Vw.refl _|fail))))
 case hi=>exact ⟨Nat.zero_le _,fun i hi=>by omega⟩
 rintro k ⟨k1,hw⟩
 have hw':=Lib.hid hw
 clear hw
 simp only [frm,Xvc,Xvd,Xu6,Xu7,Xvj,Xvk]
 by_cases hk:k < 14
 ·obtain ⟨⟨wd,kd,fs⟩,hfk⟩:∃f,Xhg k=f:=⟨_,rfl⟩
  have he:=XpS bt wd fs kd l h1
  have hfk':=Lib.hid hfk
  clear hfk
  (repeat' (first|with_reducible (first|refine Xai ?_|refine Xac ?_|refine Xat ?_|refine Xas ?_|refine Xaw ?_|refine Xae ?_|refine Xaa ?_|refine Xay ?_|refine Xaj ?_|refine Xax ?_)|(refine Xal _ rfl (fun h=>?_) (fun h=>?_)<;>((try (simp only [whn] at h));first|(exfalso;omega;done)|skip))|((apply Xad rfl);(case h=>(first|(apply Xab 0 rfl;(first|exact Xar _ rfl|exact Xap _ rfl))|(apply Xab 6 rfl;(exact Xaz _ _ _ _ _ _ _ _ rfl rfl XaU.out XaM.out (by first|exact Xu4 rfl|fail) (by first|exact Xu4 rfl|fail)))|(apply Xab 8 rfl;(exact Xdb rfl rfl rfl hfk'.out rfl hk))|(apply XaD;(case hs=>(intro _ _ h;cases h));(case hx=>rfl);(case hrun=>(intro w;simp [wtb,AV.val,go_sem];(try go_bits);rfl)))));(case hT=>((try simp only [wtn,↓reduceIte]);rfl)))|(refine Xah rfl ?_;((first|(refine Xaq 11 rfl ?_;(refine Xak 52 Tryz.f52 [_] _ _ _ rfl rfl Tryz.func52 (by decide) rfl (Xvi (l₁:=[_,_])) (VwL.refl _ _) (he) ?_;rintro _ _ ⟨rfl,rfl⟩))|(refine Xaq 14 rfl ?_;(refine XaJ _ _ rfl Xbl.out rfl (fun b=>?_)))|(refine Xaq 16 rfl ?_;(refine Xau _ _ _ _ _ _ _ rfl rfl XaU.out XaS.out (by first|rfl|fail) (by first|exact Xu4 rfl|fail) ?_)));apply Xag;(case hT=>((try simp only [wtn]);rfl));(case hH=>((try simp only [wtn,Xu9,Nat.reduceAdd]);rfl))))|fail))
  ·refine Xaf _ _ (Xc7 rfl (RV.cell 2 rfl rfl XaM.out (by simp) (by simp)) (RV.tmp _) (XaH.mk' [.box b _,.box br _] [.box bt _] (by (repeat' (first|exact Xu5 _|refine (Xvi (l₁:=[_])).trans (Xvl _ ?_)|fail))) (XaB.refl _ _) (VwL.refl _ _))) ?_
   exact ⟨rfl,.inl ⟨k,wd,kd,fs,hk,hfk'.out,h,rfl⟩⟩
  ·have hne:¬wd=l[0].text:=h
   refine ⟨k+1,by omega,⟨by omega,fun i hi=>?_⟩,XaH.mk' [.box b _] [.box br _,.box bt _] (by (repeat' (first|exact Xu5 _|refine (Xvi (l₁:=[_])).trans (Xvl _ ?_)|fail))) (XaB.refl _ _) (by (repeat' (first|exact VwL.nil|(refine VwL.cons ?_ ?_)|exact Vw.refl _|exact Vw.top _|fail)))⟩
   rcases Nat.lt_or_ge i k with h5|h5
   ·exact hw'.out i h5
   ·obtain rfl:i=k:=by omega
    rw [hfk'.out];exact hne
 ·obtain rfl:k=14:=by omega
  (repeat' (first|with_reducible (first|refine Xai ?_|refine Xac ?_|refine Xas ?_|refine Xa4 ?_|refine Xae ?_|refine Xaa ?_|refine XaN ?_|refine XaK ?_)|(refine Xal _ rfl (fun h=>?_) (fun h=>?_)<;>first|(exact absurd h (by decide))|((try (simp only [] at h));skip))|((apply Xad rfl);(case h=>(first|(apply Xab 0 rfl;(exact Xap _ rfl))|(apply Xab 10 rfl;(exact XaY _ _ _ _ _ rfl HPl.out (by first|rfl|fail) rfl))|(apply XaD;(case hs=>(intro _ _ h;cases h));(case hx=>rfl);(case hrun=>(intro w;simp [wtb,AV.val,go_sem];skip;rfl)))));(case hT=>((try simp only [wtn,↓reduceIte]);rfl)))|(refine Xah rfl ?_;((refine Xaq 16 rfl ?_;(refine Xau _ _ _ _ _ _ _ rfl rfl XaU.out XaS.out (by first|rfl|fail) (by first|exact Xu4 rfl|fail) ?_));apply Xag;(case hT=>((try simp only [wtn]);rfl));(case hH=>((try simp only [wtn,Nat.reduceAdd]);rfl))))|fail))
  refine Xaf _ _ (Xc7 rfl (RV.cell 0 rfl rfl XaM.out (by simp) (by simp)) (RV.tmp _) (XaH.mk' [_] [_] (Xu5 _) (XaB.refl _ _) (VwL.refl _ _))) ?_
  exact ⟨rfl,.inr ⟨hw'.out,rfl⟩⟩
theorem XuH (be:Nat) (e:EF) (a:Int) (t:Tok) (hlen:t.text.length≤70000) (hN:Xs5 t) (hT:t.kind=2→1≤t.text.length) (ha:a=106∨a=119∨a=100∨a=97∨a=99∨a=108∨a=110):Xa8 Tryz.prog 53 [.box be e.cells] [.x (.pointer (some ⟨be,0,none⟩)),.x (.int .i32 a),t.av] (fun r H'=>∃e':EF,r=.x (.bool (XbD (XbA a) t))∧H'=[.box be e'.cells]∧(XbD (XbA a) t=true→e'=Xgj e (XbA a) t)):=by
 by_cases hk:t.kind=2
 ·exact XtT be e a t hlen hN (hT hk) hk ha
 ·exact XtS be e a t hlen hk ha
theorem XpL (l:List Tok) (h1:1≤l.length) (hl:l.length≤3000) (hN:∀t∈l,Xs5 t) (hT:∀t∈l,t.kind=2→1≤t.text.length) (hlen:∀t∈l,t.text.length≤70000):Xa8 Tryz.prog 25 [] [.sq l.length (ta l)] (fun r H'=>r=XrP (Xcz l)∧H'=[]):=by
 have hN':=Lib.hid hN
 have hT':=Lib.hid hT
 have hlen':=Lib.hid hlen
 clear hN hT hlen
 have h0:=Xpj l 0 (by omega)
 refine XhF Tryz.func25 rfl ?_
 simp only [Tryz.ntmps25,Xu8,Xvb,Xvc,Xvd,Xvg,Xvf,Nat.reduceAdd,Nat.reduceSub]
 have hf:=fun bt=>Xtt bt l h1
 refine Xnj ?_
 (repeat' (first|with_reducible (first|refine Xai ?_|refine Xac ?_|refine Xas ?_|refine Xaw ?_|refine Xae ?_|refine Xaa ?_|refine Xay ?_)|(refine Xal _ rfl (fun h=>?_) (fun h=>?_)<;>((try (simp only [whn] at h));skip))|((apply Xad rfl);(case h=>(first|(apply Xab 0 rfl;(first|exact Xar _ rfl|exact Xap _ rfl))|(apply Xab 5 rfl;(exact XbY _ _ _ _ _ rfl rfl Xa3.out))|(apply Xab 6 rfl;(first|exact XaG _ _ _ _ _ rfl rfl XaM.out (by first|exact Xu4 rfl|fail) (by first|exact Xu4 rfl|fail)|exact Xaz _ _ _ _ _ _ _ _ rfl rfl XaU.out XaM.out (by first|exact Xu4 rfl|fail) (by first|exact Xu4 rfl|fail)))|(apply Xab 7 rfl;(exact XaI _ _ _ _ _ _ _ _ _ _ rfl rfl rfl HEl.out rfl (by first|assumption|fail) (by simp;first|omega|fail)))|(apply Xab 10 rfl;(exact XaY _ _ _ _ _ rfl HPl.out (by first|rfl|fail) rfl))|(apply XaD;(case hs=>(intro _ _ h;cases h));(case hx=>rfl);(case hrun=>(intro w;simp [wtb,AV.val,go_sem];skip;rfl)))));(case hT=>((try simp (disch:=omega) only [wtn,h0,Xu9,Xu6,Xu7,Xva,Xve,Nat.reduceAdd,Nat.reduceMul,Nat.reduceSub,↓reduceIte,Nat.reduceEqDiff]);rfl)))|(refine Xah rfl ?_;((first|(refine Xaq 11 rfl ?_;(refine Xak 31 Tryz.f31 [_] _ _ _ rfl rfl Tryz.func31 (by decide) rfl (Xvi (l₁:=[_])) (VwL.refl _ _) (hf _) ?_;rintro _ _ ⟨rfl,hres⟩))|(refine Xaq 14 rfl ?_;(refine XaJ _ _ rfl Xbl.out rfl (fun b=>?_)))|(refine Xaq 15 rfl ?_;(refine Xbx _ _ rfl (by first|rfl|fail) (fun b=>?_)))|(refine Xaq 16 rfl ?_;(refine Xau _ _ _ _ _ _ _ rfl rfl XaU.out XaS.out (by first|rfl|fail) (by first|exact Xu4 rfl|fail) ?_)));apply Xag;(case hT=>((try simp (disch:=omega) only [wtn,h0,Xu9,Xu6,Xu7,Xva,Xve,Nat.reduceAdd,Nat.reduceMul,Nat.reduceSub,↓reduceIte,Nat.reduceEqDiff]);rfl));(case hH=>((try simp (disch:=omega) only [wtn,h0,Xu9,Xu6,Xu7,Xva,Xve,Nat.reduceAdd,Nat.reduceMul,Nat.reduceSub,↓reduceIte,Nat.reduceEqDiff]);rfl))))|fail))
 ·refine Xb8 (Xaf _ _ (Xc7 rfl (RV.cell 0 rfl rfl XaM.out (by simp) (by simp)) (RV.tmp _) (XaH.mk' [_,_] [] (Xu5 _) XaB.nil (VwL.refl _ _))) ?_)
  refine ⟨?_,rfl⟩
  rw [XiI h1 (fun q=>absurd q h)]
  rfl
 rcases hres with ⟨k,wd,kd,fs,hk,hfk,hwd,rfl⟩|⟨hno,rfl⟩
 ·obtain ⟨i,hi14,hkd,hcw,hcf,hlet⟩:=Xtv k hk
  rw [hfk] at hkd hcw hcf hlet
  simp only at hkd hcw hcf hlet
  subst hkd
  have hat:=Xgg h1 (by assumption) hi14 (by rw [hcw];exact hwd)
  rw [hcf,List.length_map] at hat
  have hat':=Lib.hid hat
  have hlet':=Lib.hid hlet
  clear hat hlet hfk hcw hcf
  (repeat' (first|with_reducible (first|refine Xai ?_|refine Xac ?_|refine Xas ?_|refine Xaw ?_|refine Xae ?_|refine Xaa ?_|refine Xay ?_)|(refine Xal _ rfl (fun h=>?_) (fun h=>?_)<;>((try (simp only [whn] at h));skip))|((first|apply Xad rfl|apply Xbe _ _ rfl rfl rfl);(case h=>((try (intro (hp:(_:Bool)=true);((try simp only [Bool.not_eq_true'] at hp);skip;skip)));(first|(apply Xab 0 rfl;(first|exact Xar _ rfl|exact Xap _ rfl))|(apply Xab 1 rfl;(exact XcO _ _ _ rfl rfl))|(apply Xab 2 rfl;(exact XaO _ _ _ _ rfl rfl rfl))|(apply Xab 3 rfl;(exact Xa2 _ _ _ _ _ _ HEl.out rfl rfl))|(apply Xab 5 rfl;(exact Xam _ _ _ _ _ _ rfl rfl Xa3.out))|(apply Xab 6 rfl;(exact Xaz _ _ _ _ _ _ _ _ rfl rfl XaU.out XaM.out (by first|exact Xu4 rfl|fail) (by first|exact Xu4 rfl|fail)))|(apply Xab 10 rfl;(exact XaY _ _ _ _ _ rfl HPl.out (by first|rfl|fail) rfl))|(apply XaD;(case hs=>(intro _ _ h;cases h));(case hx=>rfl);(case hrun=>(intro w;simp [wtb,AV.val,go_sem];(try go_bits);rfl))))));(case hT=>((try simp only [wtn,↓reduceIte]);rfl)))|(refine Xah rfl ?_;((first|(refine Xaq 14 rfl ?_;(refine XaJ _ _ rfl Xbl.out rfl (fun b=>?_)))|(refine Xaq 16 rfl ?_;(refine Xau _ _ _ _ _ _ _ rfl rfl XaU.out XaS.out (by first|rfl|fail) (by first|exact Xu4 rfl|fail) ?_)));apply Xag;(case hT=>((try simp only [wtn]);rfl));(case hH=>((try simp only [wtn,Nat.reduceAdd]);rfl))))|fail))
  ·refine Xb8 (Xaf _ _ (Xc7 rfl (RV.cell 2 rfl rfl XaM.out (by simp) (by simp)) (RV.tmp _) (XaH.mk' [_,_,_] [] (Xu5 _) XaB.nil (VwL.refl _ _))) ?_)
   refine ⟨?_,rfl⟩
   rw [hat'.out,if_pos (by omega)]
   rfl
  have hlf:l.length=fs.length+1:=by omega
  rename_i bt br hk1 bf
  refine XbC (XbC (XbO ?_))
  (repeat' (first|(apply Xb0 rfl;(case h=>(first|(apply Xab 5 rfl;(exact Xam _ _ _ _ _ _ rfl rfl Xa3.out))|(apply Xab 6 rfl;(exact Xaz _ _ _ _ _ _ _ _ rfl rfl XaU.out XaM.out (by first|exact Xu4 rfl|fail) (by first|exact Xu4 rfl|fail)))));(case hT=>((try simp only [wtn]);rfl)))|fail))
  refine Xgd rfl rfl rfl (by kernel_rfl) fun kk _=>?_
  refine Xcc ?_
  refine Xaa ?_
  refine Xcn ?_
  apply Xdr (S:=Nat × EF) (fun q=>frm 52 [(1,.x (.pointer (some ⟨bt,0,none⟩))),(2,.x (.pointer (some ⟨br,0,none⟩))),(3,.x (.bool false)),(6,.x (.pointer (some ⟨b,0,none⟩))),(37,.x (.pointer (some ⟨kk,0,none⟩)))])
   (fun q=>[.box b q.2.cells,.box bt [.sq l.length (ta l)],.box br [.x (.int .i64 0),.x (.string (bs [])),.x (.bool false),.x (.int .i64 0),.x (.slice none 0 0),.x (.int .u64 0),.x (.int .i64 0),.x (.int .i64 0)]]) (fun q=>[(kk,.stringIter (bs fs) q.1)])
   (fun q=>q.1≤fs.length∧Xcz l=Xci q.2 ((fs.map fun c=>XbA c.toNat).drop q.1) ((l.drop 1).drop q.1)) (fun q=>fs.length - q.1) (0,ev0 (i+1:Nat))
  case h0=>exact XaH.mk' [.box bf _] [.box b _,.box bt _,.box br _] (by (repeat' (first|exact Xu5 _|refine (Xvi (l₁:=[_])).trans (Xvl _ ?_)|fail))) (XaB.cons (VwH.box _ (VwL.cons (Vw.refl _) (VwL.cons (Vw.refl _) (VwL.cons (Vw.refl _) (VwL.cons (Vw.refl _) (VwL.cons Vw.nil (VwL.refl _ _))))))) (XaB.cons (VwH.refl _ _) (XaB.cons (VwH.refl _ _) XaB.nil))) (by (repeat' (first|exact VwL.nil|(refine VwL.cons ?_ ?_)|exact Vw.refl _|exact Vw.top _|fail)))
  case hΘ=>rfl
  case hi=>
   refine ⟨Nat.zero_le _,?_⟩
   rw [hat'.out,if_neg (by omega),List.drop_zero,List.drop_zero]
  rintro ⟨j,ev⟩ ⟨g1,g2⟩
  simp only at g1 g2
  have g2':=Lib.hid g2
  clear g2
  simp only [frm,Xvc,Xvd,Xu6,Xu7,Xvj,Xvk]
  by_cases hj:j < fs.length
  ·obtain ⟨q128,qlet⟩:=hlet'.out fs[j] (List.getElem_mem _)
   have hd:=Xpj l (j+1) (by omega)
   have hS:=fun be=>XuH be ev (fs[j].toNat:Nat) l[j+1] (hlen'.out _ (List.getElem_mem _)) (hN'.out _ (List.getElem_mem _)) (hT'.out _ (List.getElem_mem _)) qlet
   have hst:=XiJ ev (fs.map fun c=>XbA c.toNat) (l.drop 1) j (by simpa using hj) (by simp;omega)
   rw [List.getElem_map,Xgh,show (l.drop 1)[j]'(by simp;omega)=l[j+1] from by simp [Nat.add_comm]] at hst
   have hst':=Lib.hid hst
   clear hst
   unfold Tok.av at hS
   refine XbC (XbO ?_)
   refine Xg9 rfl rfl rfl hj q128 (fun p hp=>by cases hp) ?_
   (repeat' (first|(apply Xb0 rfl;(case h=>(apply XaD;(case hs=>(intro _ _ h;cases h));(case hx=>rfl);(case hrun=>(intro w;simp [wtb,AV.val,go_sem];skip;rfl))));(case hT=>((try simp only [wtn]);rfl)))|fail))
   refine Xcc ?_
   refine Xaa ?_
   refine XbN ?_
   (repeat' (first|with_reducible (first|refine Xai ?_|refine Xac ?_|refine Xat ?_|refine Xas ?_|refine Xaw ?_|refine Xae ?_|refine Xaa ?_|refine Xay ?_|refine Xaj ?_|refine Xax ?_)|(refine Xal _ rfl (fun h=>?_) (fun h=>?_)<;>first|(exact absurd h (by decide))|((try (simp only [whn] at h));skip))|((apply Xad rfl);(case h=>(first|(apply Xab 0 rfl;(first|exact Xar _ rfl|exact Xap _ rfl))|(apply Xab 6 rfl;(first|exact XaG _ _ _ _ _ rfl rfl XaM.out (by first|exact Xu4 rfl|fail) (by first|exact Xu4 rfl|fail)|exact Xaz _ _ _ _ _ _ _ _ rfl rfl XaU.out XaM.out (by first|exact Xu4 rfl|fail) (by first|exact Xu4 rfl|fail)))|(apply Xab 7 rfl;(exact XaI _ _ _ _ _ _ _ _ _ _ rfl rfl rfl HEl.out rfl (by first|omega|fail) (by simp;first|omega|fail)))|(apply Xab 10 rfl;(exact XaY _ _ _ _ _ rfl HPl.out (by first|rfl|fail) rfl))|(apply XaD;(case hs=>(intro _ _ h;cases h));(case hx=>rfl);(case hrun=>(intro w;simp [wtb,AV.val,go_sem];(try go_bits);rfl)))));(case hT=>((try simp (disch:=omega) only [wtn,hd,XbX,Xu9,Xu6,Xu7,Xva,Xve,Nat.reduceAdd,Nat.reduceMul,Nat.reduceSub,↓reduceIte,Nat.reduceEqDiff]);rfl)))|(refine Xah rfl ?_;((first|(refine Xaq 11 rfl ?_;(refine Xak 53 Tryz.f53 [_] _ _ _ rfl rfl Tryz.func53 (by decide) rfl (Xu5 _) (VwL.refl _ _) (hS _) ?_;rintro _ _ ⟨e',rfl,rfl,he'⟩))|(refine Xaq 16 rfl ?_;(refine Xau _ _ _ _ _ _ _ rfl rfl XaU.out XaS.out (by first|rfl|fail) (by first|exact Xu4 rfl|fail) ?_)));apply Xag;(case hT=>((try simp (disch:=omega) only [wtn,hd,XbX,Xu9,Xu6,Xu7,Xva,Xve,Nat.reduceAdd,Nat.reduceMul,Nat.reduceSub,↓reduceIte,Nat.reduceEqDiff]);rfl));(case hH=>((try simp (disch:=omega) only [wtn,hd,XbX,Xu9,Xu6,Xu7,Xva,Xve,Nat.reduceAdd,Nat.reduceMul,Nat.reduceSub,↓reduceIte,Nat.reduceEqDiff]);rfl))))|fail))
   ·first
     | refine Xb8 (Xaf _ _ (Xc7 rfl (RV.cell 0 rfl rfl XaM.out (by simp;done) (by simp;done)) (RV.tmp _) (XaH.mk' [_,_,_] [] (Xu5 _) XaB.nil (VwL.refl _ _))) ?_)
     | refine Xb8 (Xaf _ _ (Xc7 rfl (RV.cell 1 rfl rfl XaM.out (by simp;done) (by simp;done)) (RV.tmp _) (XaH.mk' [_,_,_] [] (Xu5 _) XaB.nil (VwL.refl _ _))) ?_)
     | refine Xb8 (Xaf _ _ (Xc7 rfl (RV.cell 2 rfl rfl XaM.out (by simp;done) (by simp;done)) (RV.tmp _) (XaH.mk' [_,_,_] [] (Xu5 _) XaB.nil (VwL.refl _ _))) ?_)
    refine ⟨?_,rfl⟩
    rw [g2'.out,hst'.out,h]
    rfl
   ·have h':=h
    have e2:=he' h'
    subst e2
    refine ⟨rfl,(j+1,Xgj ev (XbA (fs[j].toNat:Nat)) l[j+1]),by simp only;omega,⟨by simp only;omega,?_⟩,rfl,?_⟩
    ·simp only
     rw [g2'.out,hst'.out,h']
     rfl
    ·exact (XaH.mk' [] _ (Xu5 _) (XaB.refl _ _) (by (repeat' (first|exact VwL.nil|(refine VwL.cons ?_ ?_)|exact Vw.refl _|exact Vw.top _|fail))))
  ·refine XbC (XbO ?_)
   refine Xha rfl rfl rfl hj ?_
   (repeat' (first|(apply Xb0 rfl;(case h=>(apply XaD;(case hs=>(intro _ _ h;cases h));(case hx=>rfl);(case hrun=>(intro w;simp [wtb,AV.val,go_sem];skip;rfl))));(case hT=>((try simp only [wtn]);rfl)))|fail))
   refine Xcc ?_
   refine Xaa ?_
   refine XbN ?_
   (repeat' (first|with_reducible (first|refine Xai ?_|refine Xa4 ?_|refine Xaa ?_|refine XaN ?_|refine XaK ?_)|(refine Xal _ rfl (fun h=>?_) (fun h=>?_)<;>first|(exact absurd h (by decide))|((try (simp only [] at h));skip))|fail))
   refine XbN ?_
   unfold EF.cells
   (repeat' (first|with_reducible (first|refine Xai ?_|refine Xac ?_|refine Xas ?_|refine Xae ?_|refine Xaa ?_)|((apply Xad rfl);(case h=>(first|(apply Xab 0 rfl;(exact Xap _ rfl))|(apply Xab 6 rfl;(exact Xaz _ _ _ _ _ _ _ _ rfl rfl XaU.out XaM.out (by first|exact Xu4 rfl|fail) (by first|exact Xu4 rfl|fail)))));(case hT=>((try simp only [wtn,↓reduceIte]);rfl)))|(refine Xah rfl ?_;((refine Xaq 16 rfl ?_;(refine Xau _ _ _ _ _ _ _ rfl rfl XaU.out XaS.out (by first|rfl|fail) (by first|exact Xu4 rfl|fail) ?_));apply Xag;(case hT=>((try simp only [wtn]);rfl));(case hH=>((try simp only [wtn,Nat.reduceAdd]);rfl))))|fail))
   first
    | refine Xb8 (Xaf _ _ (Xc7 rfl (RV.cell 0 rfl rfl XaM.out (by simp;done) (by simp;done)) (RV.tmp _) (XaH.mk' [_,_,_] [] (Xu5 _) XaB.nil (VwL.refl _ _))) ?_)
    | refine Xb8 (Xaf _ _ (Xc7 rfl (RV.cell 1 rfl rfl XaM.out (by simp;done) (by simp;done)) (RV.tmp _) (XaH.mk' [_,_,_] [] (Xu5 _) XaB.nil (VwL.refl _ _))) ?_)
    | refine Xb8 (Xaf _ _ (Xc7 rfl (RV.cell 2 rfl rfl XaM.out (by simp;done) (by simp;done)) (RV.tmp _) (XaH.mk' [_,_,_] [] (Xu5 _) XaB.nil (VwL.refl _ _))) ?_)
   refine ⟨?_,rfl⟩
   rw [g2'.out,List.drop_of_length_le (by simp;omega)]
   rfl
 ·have hno':=Lib.hid hno
  clear hno
  unfold Xlm
  (repeat' (first|with_reducible (first|refine Xai ?_|refine Xac ?_|refine Xas ?_|refine Xae ?_|refine Xaa ?_|refine Xay ?_)|(refine Xal _ rfl (fun h=>?_) (fun h=>?_)<;>first|(exact absurd h (by decide))|((try (simp only [] at h));skip))|((apply XhI rfl rfl rfl);(case hT=>((try simp only [wtn]);rfl)))|((apply Xad rfl);(case h=>(first|(apply Xab 0 rfl;(first|exact Xar _ rfl|exact Xap _ rfl))|(apply Xab 1 rfl;(exact Xct _ _ _ rfl rfl))|(apply Xab 2 rfl;(exact XaO _ _ _ _ rfl rfl rfl))|(apply Xab 10 rfl;(exact XaY _ _ _ _ _ rfl HPl.out (by first|rfl|fail) rfl))|(apply XaD;(case hs=>(intro _ _ h;cases h));(case hx=>rfl);(case hrun=>(intro w;simp [wtb,AV.val,go_sem];skip;rfl)))));(case hT=>((try simp only [wtn,↓reduceIte]);rfl)))|(refine Xah rfl ?_;((first|(refine Xaq 14 rfl ?_;(refine XaJ _ _ rfl Xbl.out rfl (fun b=>?_)))|(refine Xaq 16 rfl ?_;(refine Xau _ _ _ _ _ _ _ rfl rfl XaU.out XaS.out (by first|rfl|fail) (by first|exact Xu4 rfl|fail) ?_)));apply Xag;(case hT=>((try simp only [wtn]);rfl));(case hH=>((try simp only [wtn,Nat.reduceAdd]);rfl))))|fail))
  refine Xb8 (Xaf _ _ (Xc7 rfl (RV.cell 2 rfl rfl XaM.out (by simp) (by simp)) (RV.tmp _) (XaH.mk' [_,_,_] [] (Xu5 _) XaB.nil (VwL.refl _ _))) ?_)
  refine ⟨?_,rfl⟩
  rw [XiI h1 (fun _ i hi e=>by obtain ⟨k,hk,hw⟩:=XrU i hi;exact hno'.out k hk (by rw [hw];exact e))]
  rfl
open Go.RowKit
def XfS (f:Nat) (p:UInt8→Bool):Prop:=∀b:UInt8,Xa8 Tryz.prog f [] [.x (.int .u8 (b.toNat:Nat))] (fun r H'=>r=.x (.bool (p b))∧H'=[])
def XsY (b:UInt8):Int:=match XgV b with|some n=>(n:Int)|none => -1
theorem Xi1 {b:UInt8} {n:Nat} (h:XgV b=some n):XsY b=n:=by unfold XsY;rw [h]
theorem Xi0 {b:UInt8} (h:XgV b=none):XsY b = -1:=by unfold XsY;rw [h]
theorem Xhi:XfS 121 XbW:=by
 intro b
 refine XaE Tryz.func121 rfl ?_
 simp only [Tryz.ntmps121,Xu8,Xvb,Xvc,Xvd,Xvg,Xvf,Nat.reduceAdd,Nat.reduceSub]
 (repeat' (first|with_reducible (first|refine Xai ?_|refine Xac ?_|refine Xas ?_|refine Xae ?_|refine Xaa ?_)|((first|apply Xad rfl|apply Xbe _ _ rfl rfl rfl);(case h=>((try (intro (hp:(_:Bool)=true);((try simp only [Bool.and_eq_true,Bool.not_eq_true'] at hp);(try simp only [hp,wte]);(try simp only [whn] at hp))));(first|(apply Xab 0 rfl;(first|exact Xar _ rfl|exact Xap _ rfl))|(apply Xab 1 rfl;(first|exact XbH _ _ _ _ _ rfl rfl rfl rfl|exact XeK _ _ _ _ _ rfl rfl rfl rfl|exact XkV _ _ _ _ _ rfl rfl rfl rfl))|(apply XaD;(case hs=>(intro _ _ h;cases h));(case hx=>rfl);(case hrun=>(intro w;simp [wtb,AV.val,go_sem];skip;rfl))))));(case hT=>((try simp only [wtn]);rfl)))|fail))
 refine Xaf _ _ (Xbi rfl (RV.tmp _) (XaH.mk' [] _ (Xu5 _) (XaB.refl _ _) (VwL.refl _ _))) ?_
 refine ⟨?_,rfl⟩
 simp only [ev,List.getD_cons_succ,List.getD_cons_zero]
 congr 2
 rw [Bool.eq_iff_iff]
 unfold XbW
 simp only [Bool.and_eq_true,Bool.or_eq_true,decide_eq_true_eq,beq_iff_eq]
 omega
theorem Xgu:XfS 124 Xbg:=by
 intro b
 refine XaE Tryz.func124 rfl ?_
 simp only [Tryz.ntmps124,Xu8,Xvb,Xvc,Xvd,Xvg,Xvf,Nat.reduceAdd,Nat.reduceSub]
 (repeat' (first|with_reducible (first|refine Xai ?_|refine Xac ?_|refine Xas ?_|refine Xae ?_|refine Xaa ?_)|((first|apply Xad rfl|apply Xbe _ _ rfl rfl rfl);(case h=>((try (intro (hp:(_:Bool)=true);((try simp only [hp]);(try simp only [whn] at hp))));(first|(apply Xab 0 rfl;(first|exact Xar _ rfl|exact Xap _ rfl))|(apply Xab 1 rfl;(exact XbH _ _ _ _ _ rfl rfl rfl rfl))|(apply XaD;(case hs=>(intro _ _ h;cases h));(case hx=>rfl);(case hrun=>(intro w;simp [wtb,AV.val,go_sem];skip;rfl))))));(case hT=>((try simp only [wtn]);rfl)))|fail))
 refine Xaf _ _ (Xbi rfl (RV.tmp _) (XaH.mk' [] _ (Xu5 _) (XaB.refl _ _) (VwL.refl _ _))) ?_
 refine ⟨?_,rfl⟩
 simp only [ev,List.getD_cons_succ,List.getD_cons_zero]
 congr 2
 rw [Bool.eq_iff_iff]
 unfold Xbg
 simp only [Bool.and_eq_true,decide_eq_true_eq]
 omega
theorem XpZ:XfS 123 Xb3:=by
 intro b
 refine XaE Tryz.func123 rfl ?_
 simp only [Tryz.ntmps123,Xu8,Xvb,Xvc,Xvd,Xvg,Xvf,Nat.reduceAdd,Nat.reduceSub]
 (repeat' (first|with_reducible (first|refine Xai ?_|refine Xac ?_|refine Xas ?_|refine Xae ?_|refine Xaa ?_)|((first|apply Xad rfl|apply Xbe _ _ rfl rfl rfl);(case h=>((try (intro (hp:(_:Bool)=true);((try simp only [Bool.not_eq_true'] at hp);(try simp only [hp,wte]);(try simp only [whn] at hp))));(first|(apply Xab 0 rfl;(first|exact Xar _ rfl|exact Xap _ rfl))|(apply Xab 1 rfl;(exact XeK _ _ _ _ _ rfl rfl rfl rfl))|(apply Xab 11 rfl;(first|exact XaA 121 Tryz.f121 _ _ rfl rfl Tryz.func121 (by decide) rfl (VwL.refl _ _) (Xhi b)|exact XaA 124 Tryz.f124 _ _ rfl rfl Tryz.func124 (by decide) rfl (VwL.refl _ _) (Xgu b)))|(apply XaD;(case hs=>(intro _ _ h;cases h));(case hx=>rfl);(case hrun=>(intro w;simp [wtb,AV.val,go_sem];skip;rfl))))));(case hT=>((try simp only [wtn]);rfl)))|fail))
 refine Xaf _ _ (Xbi rfl (RV.tmp _) (XaH.mk' [] _ (Xu5 _) (XaB.refl _ _) (VwL.refl _ _))) ?_
 refine ⟨?_,rfl⟩
 simp only [ev,List.getD_cons_succ,List.getD_cons_zero]
 congr 2
 rw [Bool.eq_iff_iff]
 unfold Xb3
 simp only [Bool.or_eq_true,decide_eq_true_eq,beq_iff_eq]
 rcases Bool.eq_false_or_eq_true (XbW b) with h1|h1<;>rcases Bool.eq_false_or_eq_true (Xbg b) with h2|h2<;>simp [h1,h2]<;>omega
theorem Xtw (b:UInt8):Xa8 Tryz.prog 183 [] [.x (.int .u8 (b.toNat:Nat))] (fun r H'=>r=.x (.int .i64 (XsY b))∧H'=[]):=by
 have hb:=b.toNat_lt
 refine XaE Tryz.func183 rfl ?_
 simp only [Tryz.ntmps183,Xu8,Xvb,Xvc,Xvd,Xvg,Xvf,Nat.reduceAdd,Nat.reduceSub]
 (repeat' (first|with_reducible (first|refine Xai ?_|refine Xac ?_|refine Xat ?_|refine Xas ?_|refine Xaw ?_|refine Xae ?_|refine Xaa ?_|refine Xay ?_|refine Xaj ?_|refine Xax ?_)|(refine Xal _ rfl (fun h=>?_) (fun h=>?_)<;>((try (simp only [whn] at h));skip))|((first|apply Xad rfl|apply Xbe _ _ rfl rfl rfl);(case h=>((try (intro (hp:(_:Bool)=true);((try simp only [hp]);(try simp only [whn] at hp))));(first|(apply Xab 0 rfl;(first|exact Xar _ rfl|exact Xap _ rfl))|(apply Xab 1 rfl;(exact XbH _ _ _ _ _ rfl rfl rfl rfl))|(apply XaD;(case hs=>(intro _ _ h;cases h));(case hx=>rfl);(case hrun=>(intro w;simp [wtb,AV.val,go_sem];(try go_bits);rfl))))));(case hT=>((try simp only [wtn]);rfl)))|fail))
 all_goals
  refine Xaf _ _ (Xbi rfl (RV.tmp _) (XaH.mk' [] _ (Xu5 _) (XaB.refl _ _) (VwL.refl _ _))) ?_
  refine ⟨?_,rfl⟩
  simp only [ev,List.getD_cons_succ,List.getD_cons_zero]
  congr 2
  unfold XsY XgV
  first
   | (rw [if_pos (by omega)];simp only;omega)
   | (rw [if_neg (by omega),if_pos (by omega)];simp only;omega)
   | (rw [if_neg (by omega),if_neg (by omega),if_pos (by omega)];simp only;omega)
   | (rw [if_neg (by omega),if_neg (by omega),if_neg (by omega)])
end Go.Proofs.YtdpobjakdplljaaGreatDoor
