import Derived.Test.YtdpobjakdplljaaGreatDoorU13
import Derived.Test.YtdpobjakdplljaaGreatDoorU14
import Derived.Test.YtdpobjakdplljaaGreatDoorU15
import Derived.Test.YtdpobjakdplljaaGreatDoorU9
import Derived.Test.YtdpobjakdplljaaGreatDoorU8
/- The program's scripts: an event of tokens. -/
set_option linter.unusedSimpArgs false
set_option linter.unusedVariables false
set_option maxRecDepth 100000
set_option maxHeartbeats 8000000
namespace Go.Proofs.YtdpobjakdplljaaGreatDoor
open Go.RowKit
def XfK (k:Nat):List UInt8 × Int × List UInt8:=XkH.getD k ([],0,[])
theorem XpO (k:Nat) (h:k < 14):Xbm.toArray.extract (k*3) (k*3+3)=#[.string (bs (XfK k).1),.int .i64 (XfK k).2.1,.string (bs (XfK k).2.2)]:=by
 match k,h with
 | 0,_=>rfl
 | 1,_=>rfl
 | 2,_=>rfl
 | 3,_=>rfl
 | 4,_=>rfl
 | 5,_=>rfl
 | 6,_=>rfl
 | 7,_=>rfl
 | 8,_=>rfl
 | 9,_=>rfl
 | 10,_=>rfl
 | 11,_=>rfl
 | 12,_=>rfl
 | 13,_=>rfl
theorem Xo3 (k:Nat) (h:k < 14):∃i,i < 14∧(XfK k).2.1=(i+1:Nat)∧Xbl.getD i []=(XfK k).1∧Xbj.getD i []=(XfK k).2.2.map (fun c=>Xbs c.toNat)∧∀c∈(XfK k).2.2,c.toNat < 128∧((c.toNat:Int)=106∨(c.toNat:Int)=119∨(c.toNat:Int)=100∨(c.toNat:Int)=97∨(c.toNat:Int)=99∨(c.toNat:Int)=108∨(c.toNat:Int)=110):=by
 match k,h with
 | 0,_=>exact ⟨0,by decide⟩
 | 1,_=>exact ⟨1,by decide⟩
 | 2,_=>exact ⟨2,by decide⟩
 | 3,_=>exact ⟨3,by decide⟩
 | 4,_=>exact ⟨4,by decide⟩
 | 5,_=>exact ⟨5,by decide⟩
 | 6,_=>exact ⟨6,by decide⟩
 | 7,_=>exact ⟨7,by decide⟩
 | 8,_=>exact ⟨8,by decide⟩
 | 9,_=>exact ⟨9,by decide⟩
 | 10,_=>exact ⟨10,by decide⟩
 | 11,_=>exact ⟨12,by decide⟩
 | 12,_=>exact ⟨11,by decide⟩
 | 13,_=>exact ⟨13,by decide⟩
theorem XnL (i:Nat) (h:i < 14):∃k,k < 14∧(XfK k).1=Xbl.getD i []:=by
 match i,h with
 | 0,_=>exact ⟨0,by decide⟩
 | 1,_=>exact ⟨1,by decide⟩
 | 2,_=>exact ⟨2,by decide⟩
 | 3,_=>exact ⟨3,by decide⟩
 | 4,_=>exact ⟨4,by decide⟩
 | 5,_=>exact ⟨5,by decide⟩
 | 6,_=>exact ⟨6,by decide⟩
 | 7,_=>exact ⟨7,by decide⟩
 | 8,_=>exact ⟨8,by decide⟩
 | 9,_=>exact ⟨9,by decide⟩
 | 10,_=>exact ⟨10,by decide⟩
 | 11,_=>exact ⟨12,by decide⟩
 | 12,_=>exact ⟨11,by decide⟩
 | 13,_=>exact ⟨13,by decide⟩
section
variable {o:Oper} {ρ:Operand→AV} {H:List Hp}
theorem Xdx (ho:o.op=.load 129 (.global 0)):Evl Tryz.prog o ρ H (.x (.agg Xbm.toArray)):=by
 intro V a w Kc Q ok hK
 have hf:=ok.gw.forms
 have hg:Tryz.prog.globalNamed "jobmux/console.forms"=some 0:=by kernel_rfl
 simp only [World.var?,hg,Option.bind_some] at hf
 have hcell:∀j u,Xbm[j]?=some u→w.cell? ⟨0,0+j,none⟩=some u:=by
  intro j u hj
  rw [Nat.zero_add]
  unfold World.cell?
  cases hb:w.heap[0]? with
  | none=>rw [hb] at hf;cases hf
  | some ob=>
    rw [hb] at hf
    cases ob<;>first|(cases hf;done)|skip|fail
    rename_i cs e fr
    simp only [Option.some.injEq] at hf
    subst hf
    simpa using hj
 obtain ⟨v,hr,hdv⟩:=XbE (P:=Tryz.prog) 129 true 42 (by kernel_rfl) w (fun _=>False) 0 0 (Xbm.map .x) Xbm XaN.exact hcell (by decide) (fun h=>by cases h)
 have hv:v=.agg Xbm.toArray:=by
  have e:ldA true 42 (Xbm.map .x)=.x (.agg Xbm.toArray):=by rfl
  rw [e,Den] at hdv
  exact hdv
 subst hv
 exact Xdu ho rfl hr (hK _ _ (Below.refl _ _) (by rw [Den]))
theorem XcN {x y:Operand} {i:Int} {k:Nat} (ho:o.op=.index 129 x y) (hx:ρ x=.x (.agg Xbm.toArray)) (hy:ρ y=.x (.int .i64 i)) {wd fs:List UInt8} {kd:Int} (hf:XfK k=(wd,kd,fs)) (hi:i=(k:Int)) (h:k < 14):Evl Tryz.prog o ρ H (.x (.agg #[.string (bs wd),.int .i64 kd,.string (bs fs)])):=by
 subst hi
 intro V a w Kc Q ok hK
 have hu:Tryz.prog.underlying 129=some (.array 14 76):=by kernel_rfl
 obtain ⟨i1,i2⟩:=Xd1 (P:=Tryz.prog) 76 true 3 (by kernel_rfl) w
 have hrun:(Instr.index 129 (.agg Xbm.toArray) (.int .i64 (k:Int))).run Tryz.prog w=.ok (.agg #[.string (bs wd),.int .i64 kd,.string (bs fs)]) w:=by
  have hb:(k:Int) < ((14:Nat):Int):=by omega
  have he:=XpO k h
  rw [hf] at he
  simp only [Instr.index,asIntOf,Sem.run_bind,Sem.run_pure,Result.andThen_ok,run_underlying hu,hb,Int.natCast_nonneg,true_and,if_true,i2,Int.toNat_natCast]
  have he':List.take 3 (List.drop (k*3) Xbm)=[Value.string (bs wd),Value.int IntKind.i64 kd,Value.string (bs fs)]:=by
   have:=congrArg Array.toList he
   simpa [Array.toList_extract,List.extract_eq_take_drop] using this
  simp [Go.part,i1,i2,he']
 unfold Oper.wp execOp
 simp only [ho,ok.evx (by simp [ho,Op.operands]) hx,ok.evx (by simp [ho,Op.operands]) hy,hrun,Sem.run_bind,Sem.run_pure,Result.andThen_ok,Oper.upon]
 exact hK _ _ (Below.refl _ _) (by rw [Den])
end
theorem XlV (bt:Nat) (wd fs:List UInt8) (kd:Int) (l:List Tok) (h1:1≤l.length):Xbb Tryz.prog 52 [.box bt [.sq l.length (ta l)]] [.x (.agg #[.string (bs wd),.int .i64 kd,.string (bs fs)]),.x (.pointer (some ⟨bt,0,none⟩))] (fun r H'=>r=.x (.bool (wd == l[0].text))∧H'=[.box bt [.sq l.length (ta l)]]):=by
 have h0:=Xhe l 0 (by omega)
 refine XaI Tryz.func52 rfl ?_
 simp only [Tryz.ntmps52,Xqy,XqB,XqC,XqD,XqG,XqF,Nat.reduceAdd,Nat.reduceSub]
 (repeat' (first|with_reducible (first|refine Xal ?_|refine Xac ?_|refine Xaq ?_|refine Xae ?_|refine XcH ?_|refine Xaa ?_)|(with_reducible refine Xbi mixed ?_ ?_;(decide +kernel))|((first|apply Xad rfl|apply Xb8 rfl);(case h=>(first|(apply Xab 0 rfl;(exact Xao _ rfl))|(apply Xab 5 rfl;(first|exact Xau _ _ _ _ _ _ rfl rfl Xbv.out|exact Xa8 _ _ _ _ _ rfl rfl Xbv.out))|(apply Xab 6 rfl;(first|exact XaP _ _ _ _ _ rfl rfl XaZ.out (by first|exact Xqu rfl|fail) (by first|exact Xqu rfl|fail)|exact Xaz _ _ _ _ _ _ _ _ rfl rfl Xa3.out XaZ.out (by first|exact Xqu rfl|fail) (by first|exact Xqu rfl|fail)))|(apply Xab 7 rfl;(exact XaL _ _ _ _ _ _ _ _ _ _ rfl rfl rfl HEl.out rfl (by first|assumption|fail) (by simp;first|omega|fail)))|(apply XaB;(case hs=>(intro _ _ h;cases h));(case hx=>rfl);(case hrun=>(intro w;simp [wtb,AV.val,go_sem];skip;rfl)))));(case hT=>((try simp (disch:=omega) only [wtn,h0,Xqz,Xqw,Xqx,XqA,XqE,Nat.reduceAdd,Nat.reduceMul,Nat.reduceSub,↓reduceIte,Nat.reduceEqDiff]);rfl)))|(refine Xah rfl ?_;((refine Xav 15 rfl ?_;(refine Xbn _ _ rfl (by first|rfl|fail) (fun b=>?_)));apply Xag;(case hT=>((try simp (disch:=omega) only [wtn,h0,Xqz,Xqw,Xqx,XqA,XqE,Nat.reduceAdd,Nat.reduceMul,Nat.reduceSub,↓reduceIte,Nat.reduceEqDiff]);rfl));(case hH=>((try simp (disch:=omega) only [wtn,h0,Xqz,Xqw,Xqx,XqA,XqE,Nat.reduceAdd,Nat.reduceMul,Nat.reduceSub,↓reduceIte,Nat.reduceEqDiff]);rfl))))|fail))
 refine Xaf _ _ (XcL rfl (RV.tmp _) (XaH.mk' [_] [_] (Xqv _) (XaF.refl _ _) (VwL.refl _ _))) ?_
 exact ⟨rfl,rfl⟩
def Xiz:AV:=.tup [.x (.agg #[.string (bs []),.int .i64 0,.string (bs [])]),.x (.bool false)]
theorem Xo2 (bt:Nat) (l:List Tok) (h1:1≤l.length):Xbb Tryz.prog 31 [.box bt [.sq l.length (ta l)]] [.x (.func (.func 52) #[] #[.pointer (some ⟨bt,0,none⟩)])] (fun r H'=>H'=[.box bt [.sq l.length (ta l)]]∧((∃(k:Nat) (wd:List UInt8) (kd:Int) (fs:List UInt8),k < 14∧XfK k=(wd,kd,fs)∧wd=l[0].text∧r=.tup [.x (.agg #[.string (bs wd),.int .i64 kd,.string (bs fs)]),.x (.bool true)])∨((∀k,k < 14→(XfK k).1≠l[0].text)∧r=Xiz))):=by
 refine XaI Tryz.func31 rfl ?_
 simp only [Tryz.ntmps31,Xqy,XqB,XqC,XqD,XqG,XqF,Nat.reduceAdd,Nat.reduceSub]
 (repeat' (first|with_reducible (first|refine Xal ?_|refine Xac ?_|refine Xat ?_|refine Xae ?_|refine Xaa ?_)|((apply Xad rfl);(case h=>(first|(apply Xab 0 rfl;(first|exact Xas _ rfl|exact Xao _ rfl))|(apply Xab 6 rfl;(exact Xdx rfl))));(case hT=>((try simp only [wtn]);rfl)))|(refine Xah rfl ?_;((refine Xav 14 rfl ?_;(refine XaE _ _ rfl Xbu.out rfl (fun b=>?_)));apply Xag;(case hT=>((try simp only [wtn]);rfl));(case hH=>((try simp only [wtn]);rfl))))|fail))
 revert b
 intro br
 apply Xba (S:=Nat) (fun k=>frm 16 [(0,.x (.func (.func 52) #[] #[.pointer (some ⟨bt,0,none⟩)])),(2,.x (.pointer (some ⟨br,0,none⟩))),(3,.x (.bool false)),(6,.x (.agg Xbm.toArray)),(7,.x (.int .i64 k))]) (fun _=>[.box br [.x (.string (bs [])),.x (.int .i64 0),.x (.string (bs []))],.box bt [.sq l.length (ta l)]])
  (fun k=>k≤14∧∀i,i < k→(XfK i).1≠l[0].text) (fun k=>14 - k) 0
 case h0=>exact (XaH.mk' [] _ (Xqv _) (XaF.refl _ _) (by (repeat' (first|exact VwL.nil|(refine VwL.cons ?_ ?_)|exact Vw.refl _|fail))))
 case hi=>exact ⟨Nat.zero_le _,fun i hi=>by omega⟩
 rintro k ⟨k1,hw⟩
 have hw':=Lib.hid hw
 clear hw
 simp only [frm,XqC,XqD,Xqw,Xqx,XqJ,XqK]
 by_cases hk:k < 14
 ·obtain ⟨⟨wd,kd,fs⟩,hfk⟩:∃f,XfK k=f:=⟨_,rfl⟩
  have he:=XlV bt wd fs kd l h1
  have hfk':=Lib.hid hfk
  clear hfk
  (repeat' (first|with_reducible (first|refine Xal ?_|refine Xac ?_|refine Xat ?_|refine Xaq ?_|refine Xaw ?_|refine Xae ?_|refine Xaa ?_|refine Xam ?_|refine Xaj ?_|refine Xak ?_)|(refine Xai _ rfl (fun h=>?_) (fun h=>?_)<;>((try (simp only [whn] at h));first|(exfalso;omega;done)|skip))|((apply Xad rfl);(case h=>(first|(apply Xab 0 rfl;(first|exact Xas _ rfl|exact Xao _ rfl))|(apply Xab 6 rfl;(exact Xaz _ _ _ _ _ _ _ _ rfl rfl Xa3.out XaZ.out (by first|exact Xqu rfl|fail) (by first|exact Xqu rfl|fail)))|(apply Xab 8 rfl;(exact XcN rfl rfl rfl hfk'.out rfl hk))|(apply XaB;(case hs=>(intro _ _ h;cases h));(case hx=>rfl);(case hrun=>(intro w;simp [wtb,AV.val,go_sem];(try go_bits);rfl)))));(case hT=>((try simp only [wtn,↓reduceIte]);rfl)))|(refine Xah rfl ?_;((first|(refine Xav 11 rfl ?_;(refine XaW 52 Tryz.f52 [_] _ _ _ rfl rfl Tryz.func52 (by decide) rfl (XqI (l₁:=[_,_])) (VwL.refl _ _) (he) ?_;rintro _ _ ⟨rfl,rfl⟩))|(refine Xav 14 rfl ?_;(refine XaE _ _ rfl Xbu.out rfl (fun b=>?_)))|(refine Xav 16 rfl ?_;(refine Xax _ _ _ _ _ _ _ rfl rfl Xa3.out XaX.out (by first|rfl|fail) (by first|exact Xqu rfl|fail) ?_)));apply Xag;(case hT=>((try simp only [wtn]);rfl));(case hH=>((try simp only [wtn,Xqz,Nat.reduceAdd]);rfl))))|fail))
  ·refine Xaf _ _ (XcA rfl (RV.cell 2 rfl rfl XaZ.out (by simp) (by simp)) (RV.tmp _) (XaH.mk' [.box b _,.box br _] [.box bt _] (by (repeat' (first|exact Xqv _|refine (XqI (l₁:=[_])).trans (XqL _ ?_)|fail))) (XaF.refl _ _) (VwL.refl _ _))) ?_
   exact ⟨rfl,.inl ⟨k,wd,kd,fs,hk,hfk'.out,h,rfl⟩⟩
  ·have hne:¬wd=l[0].text:=h
   refine ⟨k+1,by omega,⟨by omega,fun i hi=>?_⟩,XaH.mk' [.box b _] [.box br _,.box bt _] (by (repeat' (first|exact Xqv _|refine (XqI (l₁:=[_])).trans (XqL _ ?_)|fail))) (XaF.refl _ _) (by (repeat' (first|exact VwL.nil|(refine VwL.cons ?_ ?_)|exact Vw.refl _|exact Vw.top _|fail)))⟩
   rcases Nat.lt_or_ge i k with h5|h5
   ·exact hw'.out i h5
   ·obtain rfl:i=k:=by omega
    rw [hfk'.out];exact hne
 ·obtain rfl:k=14:=by omega
  (repeat' (first|with_reducible (first|refine Xal ?_|refine Xac ?_|refine Xaq ?_|refine XaY ?_|refine Xae ?_|refine Xaa ?_|refine XaG ?_|refine XaC ?_)|(refine Xai _ rfl (fun h=>?_) (fun h=>?_)<;>first|(exact absurd h (by decide))|((try (simp only [] at h));skip))|((apply Xad rfl);(case h=>(first|(apply Xab 0 rfl;(exact Xao _ rfl))|(apply Xab 10 rfl;(exact XaQ _ _ _ _ _ rfl HPl.out (by first|rfl|fail) rfl))|(apply XaB;(case hs=>(intro _ _ h;cases h));(case hx=>rfl);(case hrun=>(intro w;simp [wtb,AV.val,go_sem];skip;rfl)))));(case hT=>((try simp only [wtn,↓reduceIte]);rfl)))|(refine Xah rfl ?_;((refine Xav 16 rfl ?_;(refine Xax _ _ _ _ _ _ _ rfl rfl Xa3.out XaX.out (by first|rfl|fail) (by first|exact Xqu rfl|fail) ?_));apply Xag;(case hT=>((try simp only [wtn]);rfl));(case hH=>((try simp only [wtn,Nat.reduceAdd]);rfl))))|fail))
  refine Xaf _ _ (XcA rfl (RV.cell 0 rfl rfl XaZ.out (by simp) (by simp)) (RV.tmp _) (XaH.mk' [_] [_] (Xqv _) (XaF.refl _ _) (VwL.refl _ _))) ?_
  exact ⟨rfl,.inr ⟨hw'.out,rfl⟩⟩
theorem Xp0 (be:Nat) (e:EF) (a:Int) (t:Tok) (hlen:t.text.length≤70000) (hN:Xlt t) (hT:t.kind=2→1≤t.text.length) (ha:a=106∨a=119∨a=100∨a=97∨a=99∨a=108∨a=110):Xbb Tryz.prog 53 [.box be e.cells] [.x (.pointer (some ⟨be,0,none⟩)),.x (.int .i32 a),t.av] (fun r H'=>∃e':EF,r=.x (.bool (Xbw (Xbs a) t))∧H'=[.box be e'.cells]∧(Xbw (Xbs a) t=true→e'=Xfk e (Xbs a) t)):=by
 by_cases hk:t.kind=2
 ·exact Xpj be e a t hlen hN (hT hk) hk ha
 ·exact Xpi be e a t hlen hk ha
theorem XlN (l:List Tok) (h1:1≤l.length) (hl:l.length≤3000) (hN:∀t∈l,Xlt t) (hT:∀t∈l,t.kind=2→1≤t.text.length) (hlen:∀t∈l,t.text.length≤70000):Xbb Tryz.prog 25 [] [.sq l.length (ta l)] (fun r H'=>r=Xjh (XbZ l)∧H'=[]):=by
 have hN':=Lib.hid hN
 have hT':=Lib.hid hT
 have hlen':=Lib.hid hlen
 clear hN hT hlen
 have h0:=Xhe l 0 (by omega)
 refine XfW Tryz.func25 rfl ?_
 simp only [Tryz.ntmps25,Xqy,XqB,XqC,XqD,XqG,XqF,Nat.reduceAdd,Nat.reduceSub]
 have hf:=fun bt=>Xo2 bt l h1
 refine Xj2 ?_
 (repeat' (first|with_reducible (first|refine Xal ?_|refine Xac ?_|refine Xaq ?_|refine Xaw ?_|refine Xae ?_|refine Xaa ?_|refine Xam ?_)|(refine Xai _ rfl (fun h=>?_) (fun h=>?_)<;>((try (simp only [whn] at h));skip))|((apply Xad rfl);(case h=>(first|(apply Xab 0 rfl;(first|exact Xas _ rfl|exact Xao _ rfl))|(apply Xab 5 rfl;(exact Xa8 _ _ _ _ _ rfl rfl Xbv.out))|(apply Xab 6 rfl;(first|exact XaP _ _ _ _ _ rfl rfl XaZ.out (by first|exact Xqu rfl|fail) (by first|exact Xqu rfl|fail)|exact Xaz _ _ _ _ _ _ _ _ rfl rfl Xa3.out XaZ.out (by first|exact Xqu rfl|fail) (by first|exact Xqu rfl|fail)))|(apply Xab 7 rfl;(exact XaL _ _ _ _ _ _ _ _ _ _ rfl rfl rfl HEl.out rfl (by first|assumption|fail) (by simp;first|omega|fail)))|(apply Xab 10 rfl;(exact XaQ _ _ _ _ _ rfl HPl.out (by first|rfl|fail) rfl))|(apply XaB;(case hs=>(intro _ _ h;cases h));(case hx=>rfl);(case hrun=>(intro w;simp [wtb,AV.val,go_sem];skip;rfl)))));(case hT=>((try simp (disch:=omega) only [wtn,h0,Xqz,Xqw,Xqx,XqA,XqE,Nat.reduceAdd,Nat.reduceMul,Nat.reduceSub,↓reduceIte,Nat.reduceEqDiff]);rfl)))|(refine Xah rfl ?_;((first|(refine Xav 11 rfl ?_;(refine XaW 31 Tryz.f31 [_] _ _ _ rfl rfl Tryz.func31 (by decide) rfl (XqI (l₁:=[_])) (VwL.refl _ _) (hf _) ?_;rintro _ _ ⟨rfl,hres⟩))|(refine Xav 14 rfl ?_;(refine XaE _ _ rfl Xbu.out rfl (fun b=>?_)))|(refine Xav 15 rfl ?_;(refine Xbn _ _ rfl (by first|rfl|fail) (fun b=>?_)))|(refine Xav 16 rfl ?_;(refine Xax _ _ _ _ _ _ _ rfl rfl Xa3.out XaX.out (by first|rfl|fail) (by first|exact Xqu rfl|fail) ?_)));apply Xag;(case hT=>((try simp (disch:=omega) only [wtn,h0,Xqz,Xqw,Xqx,XqA,XqE,Nat.reduceAdd,Nat.reduceMul,Nat.reduceSub,↓reduceIte,Nat.reduceEqDiff]);rfl));(case hH=>((try simp (disch:=omega) only [wtn,h0,Xqz,Xqw,Xqx,XqA,XqE,Nat.reduceAdd,Nat.reduceMul,Nat.reduceSub,↓reduceIte,Nat.reduceEqDiff]);rfl))))|fail))
 ·refine Xb0 (Xaf _ _ (XcA rfl (RV.cell 0 rfl rfl XaZ.out (by simp) (by simp)) (RV.tmp _) (XaH.mk' [_,_] [] (Xqv _) XaF.nil (VwL.refl _ _))) ?_)
  refine ⟨?_,rfl⟩
  rw [XeS h1 (fun q=>absurd q h)]
  rfl
 rcases hres with ⟨k,wd,kd,fs,hk,hfk,hwd,rfl⟩|⟨hno,rfl⟩
 ·obtain ⟨i,hi14,hkd,hcw,hcf,hlet⟩:=Xo3 k hk
  rw [hfk] at hkd hcw hcf hlet
  simp only at hkd hcw hcf hlet
  subst hkd
  have hat:=Xdg h1 (by assumption) hi14 (by rw [hcw];exact hwd)
  rw [hcf,List.length_map] at hat
  have hat':=Lib.hid hat
  have hlet':=Lib.hid hlet
  clear hat hlet hfk hcw hcf
  (repeat' (first|with_reducible (first|refine Xal ?_|refine Xac ?_|refine Xaq ?_|refine Xaw ?_|refine Xae ?_|refine Xaa ?_|refine Xam ?_)|(refine Xai _ rfl (fun h=>?_) (fun h=>?_)<;>((try (simp only [whn] at h));skip))|((first|apply Xad rfl|apply XaV _ _ rfl rfl rfl);(case h=>((try (intro (hp:(_:Bool)=true);((try simp only [Bool.not_eq_true'] at hp);skip;skip)));(first|(apply Xab 0 rfl;(first|exact Xas _ rfl|exact Xao _ rfl))|(apply Xab 1 rfl;(exact Xbq _ _ _ rfl rfl))|(apply Xab 2 rfl;(exact Xay _ _ _ _ rfl rfl rfl))|(apply Xab 3 rfl;(exact Xa2 _ _ _ _ _ _ HEl.out rfl rfl))|(apply Xab 5 rfl;(exact Xau _ _ _ _ _ _ rfl rfl Xbv.out))|(apply Xab 6 rfl;(exact Xaz _ _ _ _ _ _ _ _ rfl rfl Xa3.out XaZ.out (by first|exact Xqu rfl|fail) (by first|exact Xqu rfl|fail)))|(apply Xab 10 rfl;(exact XaQ _ _ _ _ _ rfl HPl.out (by first|rfl|fail) rfl))|(apply XaB;(case hs=>(intro _ _ h;cases h));(case hx=>rfl);(case hrun=>(intro w;simp [wtb,AV.val,go_sem];(try go_bits);rfl))))));(case hT=>((try simp only [wtn,↓reduceIte]);rfl)))|(refine Xah rfl ?_;((first|(refine Xav 14 rfl ?_;(refine XaE _ _ rfl Xbu.out rfl (fun b=>?_)))|(refine Xav 16 rfl ?_;(refine Xax _ _ _ _ _ _ _ rfl rfl Xa3.out XaX.out (by first|rfl|fail) (by first|exact Xqu rfl|fail) ?_)));apply Xag;(case hT=>((try simp only [wtn]);rfl));(case hH=>((try simp only [wtn,Nat.reduceAdd]);rfl))))|fail))
  ·refine Xb0 (Xaf _ _ (XcA rfl (RV.cell 2 rfl rfl XaZ.out (by simp) (by simp)) (RV.tmp _) (XaH.mk' [_,_,_] [] (Xqv _) XaF.nil (VwL.refl _ _))) ?_)
   refine ⟨?_,rfl⟩
   rw [hat'.out,if_pos (by omega)]
   rfl
  have hlf:l.length=fs.length+1:=by omega
  rename_i bt br hk1 bf
  refine Xbt (Xbt (XbJ ?_))
  (repeat' (first|(apply XbT rfl;(case h=>(first|(apply Xab 5 rfl;(exact Xau _ _ _ _ _ _ rfl rfl Xbv.out))|(apply Xab 6 rfl;(exact Xaz _ _ _ _ _ _ _ _ rfl rfl Xa3.out XaZ.out (by first|exact Xqu rfl|fail) (by first|exact Xqu rfl|fail)))));(case hT=>((try simp only [wtn]);rfl)))|fail))
  refine XeQ rfl rfl rfl (by kernel_rfl) fun kk _=>?_
  refine Xb5 ?_
  refine Xaa ?_
  refine Xca ?_
  apply XcU (S:=Nat × EF) (fun q=>frm 52 [(1,.x (.pointer (some ⟨bt,0,none⟩))),(2,.x (.pointer (some ⟨br,0,none⟩))),(3,.x (.bool false)),(6,.x (.pointer (some ⟨b,0,none⟩))),(37,.x (.pointer (some ⟨kk,0,none⟩)))])
   (fun q=>[.box b q.2.cells,.box bt [.sq l.length (ta l)],.box br [.x (.int .i64 0),.x (.string (bs [])),.x (.bool false),.x (.int .i64 0),.x (.slice none 0 0),.x (.int .u64 0),.x (.int .i64 0),.x (.int .i64 0)]]) (fun q=>[(kk,.stringIter (bs fs) q.1)])
   (fun q=>q.1≤fs.length∧XbZ l=Xc4 q.2 ((fs.map fun c=>Xbs c.toNat).drop q.1) ((l.drop 1).drop q.1)) (fun q=>fs.length - q.1) (0,ev0 (i+1:Nat))
  case h0=>exact XaH.mk' [.box bf _] [.box b _,.box bt _,.box br _] (by (repeat' (first|exact Xqv _|refine (XqI (l₁:=[_])).trans (XqL _ ?_)|fail))) (XaF.cons (VwH.box _ (VwL.cons (Vw.refl _) (VwL.cons (Vw.refl _) (VwL.cons (Vw.refl _) (VwL.cons (Vw.refl _) (VwL.cons Vw.nil (VwL.refl _ _))))))) (XaF.cons (VwH.refl _ _) (XaF.cons (VwH.refl _ _) XaF.nil))) (by (repeat' (first|exact VwL.nil|(refine VwL.cons ?_ ?_)|exact Vw.refl _|exact Vw.top _|fail)))
  case hΘ=>rfl
  case hi=>
   refine ⟨Nat.zero_le _,?_⟩
   rw [hat'.out,if_neg (by omega),List.drop_zero,List.drop_zero]
  rintro ⟨j,ev⟩ ⟨g1,g2⟩
  simp only at g1 g2
  have g2':=Lib.hid g2
  clear g2
  simp only [frm,XqC,XqD,Xqw,Xqx,XqJ,XqK]
  by_cases hj:j < fs.length
  ·obtain ⟨q128,qlet⟩:=hlet'.out fs[j] (List.getElem_mem _)
   have hd:=Xhe l (j+1) (by omega)
   have hS:=fun be=>Xp0 be ev (fs[j].toNat:Nat) l[j+1] (hlen'.out _ (List.getElem_mem _)) (hN'.out _ (List.getElem_mem _)) (hT'.out _ (List.getElem_mem _)) qlet
   have hst:=Xel ev (fs.map fun c=>Xbs c.toNat) (l.drop 1) j (by simpa using hj) (by simp;omega)
   rw [List.getElem_map,XgH,show (l.drop 1)[j]'(by simp;omega)=l[j+1] from by simp [Nat.add_comm]] at hst
   have hst':=Lib.hid hst
   clear hst
   unfold Tok.av at hS
   refine Xbt (XbJ ?_)
   refine XfC rfl rfl rfl hj q128 (fun p hp=>by cases hp) ?_
   (repeat' (first|(apply XbT rfl;(case h=>(apply XaB;(case hs=>(intro _ _ h;cases h));(case hx=>rfl);(case hrun=>(intro w;simp [wtb,AV.val,go_sem];skip;rfl))));(case hT=>((try simp only [wtn]);rfl)))|fail))
   refine Xb5 ?_
   refine Xaa ?_
   refine XbI ?_
   (repeat' (first|with_reducible (first|refine Xal ?_|refine Xac ?_|refine Xat ?_|refine Xaq ?_|refine Xaw ?_|refine Xae ?_|refine Xaa ?_|refine Xam ?_|refine Xaj ?_|refine Xak ?_)|(refine Xai _ rfl (fun h=>?_) (fun h=>?_)<;>first|(exact absurd h (by decide))|((try (simp only [whn] at h));skip))|((apply Xad rfl);(case h=>(first|(apply Xab 0 rfl;(first|exact Xas _ rfl|exact Xao _ rfl))|(apply Xab 6 rfl;(first|exact XaP _ _ _ _ _ rfl rfl XaZ.out (by first|exact Xqu rfl|fail) (by first|exact Xqu rfl|fail)|exact Xaz _ _ _ _ _ _ _ _ rfl rfl Xa3.out XaZ.out (by first|exact Xqu rfl|fail) (by first|exact Xqu rfl|fail)))|(apply Xab 7 rfl;(exact XaL _ _ _ _ _ _ _ _ _ _ rfl rfl rfl HEl.out rfl (by first|omega|fail) (by simp;first|omega|fail)))|(apply Xab 10 rfl;(exact XaQ _ _ _ _ _ rfl HPl.out (by first|rfl|fail) rfl))|(apply XaB;(case hs=>(intro _ _ h;cases h));(case hx=>rfl);(case hrun=>(intro w;simp [wtb,AV.val,go_sem];(try go_bits);rfl)))));(case hT=>((try simp (disch:=omega) only [wtn,hd,XbO,Xqz,Xqw,Xqx,XqA,XqE,Nat.reduceAdd,Nat.reduceMul,Nat.reduceSub,↓reduceIte,Nat.reduceEqDiff]);rfl)))|(refine Xah rfl ?_;((first|(refine Xav 11 rfl ?_;(refine XaW 53 Tryz.f53 [_] _ _ _ rfl rfl Tryz.func53 (by decide) rfl (Xqv _) (VwL.refl _ _) (hS _) ?_;rintro _ _ ⟨e',rfl,rfl,he'⟩))|(refine Xav 16 rfl ?_;(refine Xax _ _ _ _ _ _ _ rfl rfl Xa3.out XaX.out (by first|rfl|fail) (by first|exact Xqu rfl|fail) ?_)));apply Xag;(case hT=>((try simp (disch:=omega) only [wtn,hd,XbO,Xqz,Xqw,Xqx,XqA,XqE,Nat.reduceAdd,Nat.reduceMul,Nat.reduceSub,↓reduceIte,Nat.reduceEqDiff]);rfl));(case hH=>((try simp (disch:=omega) only [wtn,hd,XbO,Xqz,Xqw,Xqx,XqA,XqE,Nat.reduceAdd,Nat.reduceMul,Nat.reduceSub,↓reduceIte,Nat.reduceEqDiff]);rfl))))|fail))
   ·first
     | refine Xb0 (Xaf _ _ (XcA rfl (RV.cell 0 rfl rfl XaZ.out (by simp;done) (by simp;done)) (RV.tmp _) (XaH.mk' [_,_,_] [] (Xqv _) XaF.nil (VwL.refl _ _))) ?_)
     | refine Xb0 (Xaf _ _ (XcA rfl (RV.cell 1 rfl rfl XaZ.out (by simp;done) (by simp;done)) (RV.tmp _) (XaH.mk' [_,_,_] [] (Xqv _) XaF.nil (VwL.refl _ _))) ?_)
     | refine Xb0 (Xaf _ _ (XcA rfl (RV.cell 2 rfl rfl XaZ.out (by simp;done) (by simp;done)) (RV.tmp _) (XaH.mk' [_,_,_] [] (Xqv _) XaF.nil (VwL.refl _ _))) ?_)
    refine ⟨?_,rfl⟩
    rw [g2'.out,hst'.out,h]
    rfl
   ·have h':=h
    have e2:=he' h'
    subst e2
    refine ⟨rfl,(j+1,Xfk ev (Xbs (fs[j].toNat:Nat)) l[j+1]),by simp only;omega,⟨by simp only;omega,?_⟩,rfl,?_⟩
    ·simp only
     rw [g2'.out,hst'.out,h']
     rfl
    ·exact (XaH.mk' [] _ (Xqv _) (XaF.refl _ _) (by (repeat' (first|exact VwL.nil|(refine VwL.cons ?_ ?_)|exact Vw.refl _|exact Vw.top _|fail))))
  ·refine Xbt (XbJ ?_)
   refine XfD rfl rfl rfl hj ?_
   (repeat' (first|(apply XbT rfl;(case h=>(apply XaB;(case hs=>(intro _ _ h;cases h));(case hx=>rfl);(case hrun=>(intro w;simp [wtb,AV.val,go_sem];skip;rfl))));(case hT=>((try simp only [wtn]);rfl)))|fail))
   refine Xb5 ?_
   refine Xaa ?_
   refine XbI ?_
   (repeat' (first|with_reducible (first|refine Xal ?_|refine XaY ?_|refine Xaa ?_|refine XaG ?_|refine XaC ?_)|(refine Xai _ rfl (fun h=>?_) (fun h=>?_)<;>first|(exact absurd h (by decide))|((try (simp only [] at h));skip))|fail))
   refine XbI ?_
   unfold EF.cells
   (repeat' (first|with_reducible (first|refine Xal ?_|refine Xac ?_|refine Xaq ?_|refine Xae ?_|refine Xaa ?_)|((apply Xad rfl);(case h=>(first|(apply Xab 0 rfl;(exact Xao _ rfl))|(apply Xab 6 rfl;(exact Xaz _ _ _ _ _ _ _ _ rfl rfl Xa3.out XaZ.out (by first|exact Xqu rfl|fail) (by first|exact Xqu rfl|fail)))));(case hT=>((try simp only [wtn,↓reduceIte]);rfl)))|(refine Xah rfl ?_;((refine Xav 16 rfl ?_;(refine Xax _ _ _ _ _ _ _ rfl rfl Xa3.out XaX.out (by first|rfl|fail) (by first|exact Xqu rfl|fail) ?_));apply Xag;(case hT=>((try simp only [wtn]);rfl));(case hH=>((try simp only [wtn,Nat.reduceAdd]);rfl))))|fail))
   first
    | refine Xb0 (Xaf _ _ (XcA rfl (RV.cell 0 rfl rfl XaZ.out (by simp;done) (by simp;done)) (RV.tmp _) (XaH.mk' [_,_,_] [] (Xqv _) XaF.nil (VwL.refl _ _))) ?_)
    | refine Xb0 (Xaf _ _ (XcA rfl (RV.cell 1 rfl rfl XaZ.out (by simp;done) (by simp;done)) (RV.tmp _) (XaH.mk' [_,_,_] [] (Xqv _) XaF.nil (VwL.refl _ _))) ?_)
    | refine Xb0 (Xaf _ _ (XcA rfl (RV.cell 2 rfl rfl XaZ.out (by simp;done) (by simp;done)) (RV.tmp _) (XaH.mk' [_,_,_] [] (Xqv _) XaF.nil (VwL.refl _ _))) ?_)
   refine ⟨?_,rfl⟩
   rw [g2'.out,List.drop_of_length_le (by simp;omega)]
   rfl
 ·have hno':=Lib.hid hno
  clear hno
  unfold Xiz
  (repeat' (first|with_reducible (first|refine Xal ?_|refine Xac ?_|refine Xaq ?_|refine Xae ?_|refine Xaa ?_|refine Xam ?_)|(refine Xai _ rfl (fun h=>?_) (fun h=>?_)<;>first|(exact absurd h (by decide))|((try (simp only [] at h));skip))|((apply Xcg rfl rfl rfl);(case hT=>((try simp only [wtn]);rfl)))|((apply Xad rfl);(case h=>(first|(apply Xab 0 rfl;(first|exact Xas _ rfl|exact Xao _ rfl))|(apply Xab 1 rfl;(exact Xbk _ _ _ rfl rfl))|(apply Xab 2 rfl;(exact Xay _ _ _ _ rfl rfl rfl))|(apply Xab 10 rfl;(exact XaQ _ _ _ _ _ rfl HPl.out (by first|rfl|fail) rfl))|(apply XaB;(case hs=>(intro _ _ h;cases h));(case hx=>rfl);(case hrun=>(intro w;simp [wtb,AV.val,go_sem];skip;rfl)))));(case hT=>((try simp only [wtn,↓reduceIte]);rfl)))|(refine Xah rfl ?_;((first|(refine Xav 14 rfl ?_;(refine XaE _ _ rfl Xbu.out rfl (fun b=>?_)))|(refine Xav 16 rfl ?_;(refine Xax _ _ _ _ _ _ _ rfl rfl Xa3.out XaX.out (by first|rfl|fail) (by first|exact Xqu rfl|fail) ?_)));apply Xag;(case hT=>((try simp only [wtn]);rfl));(case hH=>((try simp only [wtn,Nat.reduceAdd]);rfl))))|fail))
  refine Xb0 (Xaf _ _ (XcA rfl (RV.cell 2 rfl rfl XaZ.out (by simp) (by simp)) (RV.tmp _) (XaH.mk' [_,_,_] [] (Xqv _) XaF.nil (VwL.refl _ _))) ?_)
  refine ⟨?_,rfl⟩
  rw [XeS h1 (fun _ i hi e=>by obtain ⟨k,hk,hw⟩:=XnL i hi;exact hno'.out k hk (by rw [hw];exact e))]
  rfl
open Go.RowKit
def Got {α:Type} (ts:List Tok) (s:PS) (x:Except Flt (α × Nat)) (s':PS) (v:α):Prop:=
 s'.k < ts.length∧s.k≤s'.k∧(s.e≠0→s'=s)∧(s.e=0→match x with
  | .ok p=>v=p.1∧s'=⟨p.2,0,s.l,s.c⟩
  | .error f=>f.code≠0∧s'.e=f.code∧s'.l=f.line∧s'.c=f.col)
theorem Got.bind {α β:Type} {ts:List Tok} {s s1 s2:PS} {x:Except Flt (α × Nat)} {y:α→Nat→Except Flt (β × Nat)} {a:α} {b:β} (h1:Got ts s x s1 a) (h2:Got ts s1 (y a s1.k) s2 b):Got ts s (x >>= fun p=>y p.1 p.2) s2 b:=by
 obtain ⟨_,hq1,h1n,h1z⟩:=h1
 obtain ⟨hk,hq2,h2n,h2z⟩:=h2
 refine ⟨hk,Nat.le_trans hq1 hq2,fun h=>?_,fun h=>?_⟩
 ·have e:=h1n h
  subst e
  exact h2n h
 ·have h1':=h1z h
  cases x with
  | ok p=>
    obtain ⟨e1,e2⟩:=h1'
    subst e1 e2
    exact h2z rfl
  | error f=>
    obtain ⟨g1,g2,g3,g4⟩:=h1'
    have e:=h2n (by rw [g2];exact g1)
    subst e
    exact ⟨g1,g2,g3,g4⟩
theorem Got.of {α:Type} {ts:List Tok} {s s':PS} {x y:Except Flt (α × Nat)} {v:α} (h:Got ts s x s' v) (e:y=x):Got ts s y s' v:=e▸h
theorem Got.val {α β:Type} {ts:List Tok} {s s':PS} {x:Except Flt (α × Nat)} {v:α} (f:α→β) (h:Got ts s x s' v):Got ts s (x.map fun p=>(f p.1,p.2)) s' (f v):=by
 obtain ⟨hk,hq,hn,hz⟩:=h
 refine ⟨hk,hq,hn,fun e=>?_⟩
 have h':=hz e
 cases x with
 | ok p=>exact ⟨by rw [h'.1],h'.2⟩
 | error g=>exact h'
theorem Got.any {α:Type} {ts:List Tok} {s s':PS} {x:Except Flt (α × Nat)} {v w:α} (h:Got ts s x s' v) (hb:s'.e≠0):Got ts s x s' w:=by
 obtain ⟨hk,hq,hn,hz⟩:=h
 refine ⟨hk,hq,hn,fun e=>?_⟩
 have h':=hz e
 cases x with
 | ok p=>exfalso;rw [h'.2] at hb;exact hb rfl
 | error g=>exact h'
theorem Got.test {α:Type} {ts:List Tok} {s:PS} (hk:s.k < ts.length) (e2:Int) (h2:e2≠0) (t:Tok) (v:α):Got ts s (.error (flt e2 t)) (s.fail e2 t) v:=by
 refine ⟨by simp only [PS.fail];split<;>exact hk,by simp only [PS.fail];split<;>exact Nat.le_refl _,fun e=>by simp only [PS.fail,if_neg e],fun e=>?_⟩
 simp only [PS.fail,if_pos e]
 exact ⟨h2,rfl,rfl,rfl⟩
theorem Got.bad {α:Type} {ts:List Tok} {s:PS} (hk:s.k < ts.length) (hb:s.e≠0) (x:Except Flt (α × Nat)) (v:α):Got ts s x s v:=⟨hk,Nat.le_refl _,fun _=>rfl,fun e=>absurd e hb⟩
theorem Got.lt {α:Type} {ts:List Tok} {s s':PS} {x:Except Flt (α × Nat)} {v:α} (h:Got ts s x s' v):s'.k < ts.length:=h.1
theorem Got.ok {α:Type} {ts:List Tok} {s s':PS} {x:Except Flt (α × Nat)} {v:α} (h:Got ts s x s' v) (hz:s'.e=0):s.e=0∧x=.ok (v,s'.k)∧s'.l=s.l∧s'.c=s.c:=by
 obtain ⟨hk,-,hn,hz'⟩:=h
 by_cases e:s.e=0
 ·have h':=hz' e
  cases x with
  | ok p=>obtain ⟨h1,h2⟩:=h';subst h1 h2;exact ⟨e,rfl,rfl,rfl⟩
  | error g=>exact absurd (h'.2.1▸hz) h'.1
 ·exact absurd ((hn e)▸hz) e
theorem Got.next {α:Type} {x:Except Flt α} {k k2:Nat} {v:α} (h:(x.map fun a=>(a,k))=.ok (v,k2)):k2=k:=by
 cases x with
 | ok a=>cases h;rfl
 | error f=>cases h
def Xqs:List (List UInt8):=[[114,117,110],[101,110,118],[110,101,101,100,115],[114,101,97,100,121],[114,101,115,116,97,114,116],[98,97,99,107,111,102,102],[98,117,114,115,116],[115,116,111,112]]
structure JB (j:JF) (k:Nat):Prop where
 env:j.env.length≤k
 needs:j.needs.length≤k
 ladder:j.ladder.length≤k
theorem JB.mono {j:JF} {k k':Nat} (h:JB j k) (hk:k≤k'):JB j k':=⟨Nat.le_trans h.1 hk,Nat.le_trans h.2 hk,Nat.le_trans h.3 hk⟩
section
variable (ts:List Tok) (k:Nat) (j:JF)
end
open Go.RowKit
def JF.zero:JF:=⟨[],[],[],[],false,[],0,0,0,0,0,0,[],0,0⟩
def XpF (ts:List Tok):Prop:=∀t∈ts,t.text.length≤8192
theorem Got.flt {α β:Type} {ts:List Tok} {s s':PS} {f:Flt} {v:α} {w:β} (h:Got ts s (.error f:Except Flt (α × Nat)) s' v):Got ts s (.error f:Except Flt (β × Nat)) s' w:=h
theorem XgX:∀(n:Nat) (p:Nat × Nat) (i:Nat) (l:List UInt8),l.length≤n→i≤2000→(∀ts,Xb1 p i l=.ok ts→ts.length+i≤2001)∧∀f,Xb1 p i l=.error f→f.code≠0
 | n,p,i,l,hn,hi0=>by
   cases hd:l.drop (skp l) with
   | nil=>
     rw [XcI p i l hd]
     exact ⟨fun ts h=>(by cases h;simp;omega),fun f h=>by cases h⟩
   | cons c r=>
     have hlen:=congrArg List.length hd
     simp only [List.length_drop,Xqy] at hlen
     cases h1:one (c :: r) with
     | error e=>
       rw [XcZ p i l c r e hd h1]
       refine ⟨fun ts h=>(by cases h),fun f h=>?_⟩
       cases h
       have:=Xk0 h1
       simp only;omega
     | ok x=>
       by_cases hi:2000≤i
       ·rw [XcD p i l c r x hd h1 hi]
        exact ⟨fun ts h=>(by cases h),fun f h=>by cases h;simp⟩
       ·obtain ⟨a,t,m⟩:=x
        obtain ⟨g1,g2,g3,g4⟩:=Xen h1
        simp only at g1 g2 g3 g4
        rw [XcJ p i l c r a t m hd h1 g1 (by omega)]
        cases n with
        | zero=>omega
        | succ n=>
          obtain ⟨h2,h3⟩:=XgX n (plc p (l.take (skp l+m))) (i+1) ((c :: r).drop m) (by simp only [List.length_drop,Xqy];omega) (by omega)
          cases hr:Xb1 (plc p (l.take (skp l+m))) (i+1) ((c :: r).drop m) with
          | error e=>exact ⟨fun ts h=>(by cases h),fun f h=>by cases h;exact h3 _ hr⟩
          | ok y=>
            refine ⟨fun ts h=>?_,fun f h=>by cases h⟩
            cases h
            have:=h2 y hr
            simp only [Xqy];omega
theorem XdY (l:List UInt8):(∀f,lex l=.error f→f.code≠0)∧∀ts,lex l=.ok ts→0 < ts.length∧ts.length≤2001∧VT ts∧(∀t∈ts,t.text.length≤1000000)∧l.length≤8192:=by
 unfold lex
 split
 ·exact ⟨fun f h=>(by cases h;simp),fun ts h=>by cases h⟩
 ·rename_i hl
  obtain ⟨h2,h3⟩:=XgX l.length (1,1) 0 l (Nat.le_refl _) (by omega)
  refine ⟨h3,fun ts h=>?_⟩
  have hc:=h2 ts h
  obtain ⟨qs,e,rfl,he,hq,ht⟩:=XeC l.length (1,1) 0 l ts (Nat.le_refl _) h
  refine ⟨by simp,by omega,fun k hk hne=>?_,fun t h=>(by have:=ht t h;omega),by omega⟩
  simp only [XqH,Xqy,XqB] at hk ⊢
  by_cases hlt:k < qs.length
  ·omega
  ·exfalso
   rw [List.getElem_append_right (by omega)] at hne
   simp at hne
   exact hne he
def Xcn (n:Nat):List UInt8:=if h:n < 10 then [UInt8.ofNat (48+n)] else Xcn (n / 10)++Xcn (n % 10)
termination_by n
decreasing_by
 ·omega
 ·omega
theorem XeB:∀(k n:Nat),n < 10 ^ (k+1)→(Xcn n).length≤k+1
 | 0,n,h=>by rw [Xcn,dif_pos (by omega)];simp
 | k+1,n,h=>by
   rw [Xcn]
   split
   ·simp
   ·rw [XqH]
    have h1:=XeB k (n / 10) (by rw [Nat.pow_succ] at h;omega)
    have h2:=XeB 0 (n % 10) (by omega)
    omega
theorem Xlo (n:Nat):Int.tdiv (n:Int) 10=((n / 10:Nat):Int):=rfl
theorem Xlp (n:Nat):Int.tmod (n:Int) 10=((n % 10:Nat):Int):=rfl
theorem XbU (n:Nat) (hn:n≤18446744073709551615):(Xcn n).length≤20:=
 XeB 19 n (by have:(10:Nat) ^ (19+1)=100000000000000000000:=by decide
              omega)
end Go.Proofs.YtdpobjakdplljaaGreatDoor
