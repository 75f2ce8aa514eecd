import Derived.Test.YtdpobjakdplljaaGreatDoorV34
import Derived.Test.YtdpobjakdplljaaGreatDoorV29
import Derived.Test.YtdpobjakdplljaaGreatDoorV31
import Derived.Lib.AppendIntMem
import Derived.Test.YtdpobjakdplljaaGreatDoorV36
import Derived.Test.YtdpobjakdplljaaGreatDoorV11
import Derived.Lib.Builder
/- The program's scripts: numbers written, which events are equal, the form of a kind, the token of a field. -/
set_option linter.unusedSimpArgs false
set_option linter.unusedVariables false
set_option maxRecDepth 100000
set_option maxHeartbeats 8000000
namespace Go.Proofs.YtdpobjakdplljaaGreatDoor
open Go.RowKit
theorem XhM (n:Nat):Xb5 n=Lib.decDigits n:=by
 induction n using Nat.strongRecOn with
 | _ n ih=>
   by_cases h:n < 10
   ·rw [Xb5,dif_pos h,Lib.decDigits,dif_pos h]
   ·rw [Xkb n h,ih (n / 10) (by omega)]
    conv=>rhs;rw [Lib.decDigits,dif_neg h]
theorem XpN (n:Int):Lib.itoa n=dcI n:=by
 unfold Lib.itoa dcI
 split
 ·rw [←XhM,show n.natAbs=(-n).toNat from by omega]
 ·rw [XhM]
theorem Xof (n:Int) (h0 : -9223372036854775808≤n) (h1:n≤9223372036854775807):Xa8 Tryz.prog 65 [] [.x (.int .i64 n)] (fun r H'=>r=.x (.string (bs (dcI n)))∧H'=[]):=by
 refine (Xes (args:=[.int .i64 n]) (Q:=fun v=>v=.string (bs (dcI n))) (fun w hg=>?_) []).mono fun r H' ⟨v,hv,hr,hH⟩=>⟨by rw [hr,hv],hH⟩
 refine (strconv_Itoa n h0 h1 w hg.pow).mono ?_
 rintro e w' ⟨rfl,k,os,rfl⟩
 exact ⟨_,rfl,by rw [XpN];rfl,Go.Lib.below_grow w.heap.size w (Nat.le_refl _) k os⟩
theorem XpB (a d:List UInt8):Xa8 Tryz.prog 68 [] [.sq a.length (u8a a),.sq d.length (u8a d)] (fun r H'=>r=.x (.bool (a == d))∧H'=[]):=by
 refine XaE Tryz.func68 rfl ?_
 simp only [Tryz.ntmps68,Xu8,Xvb,Xvc,Xvd,Xvg,Xvf,Nat.reduceAdd,Nat.reduceSub]
 (repeat' (first|with_reducible (first|refine Xai ?_|refine Xac ?_|refine Xas ?_|refine Xae ?_|refine Xaa ?_)|((apply Xad rfl);(case h=>((try (intro (hp:(_:Bool)=true);((try simp only [Bool.and_eq_true,Bool.not_eq_true',Bool.not_eq_true] at hp);(try simp only [hp,wte]);(try simp only [whn] at hp))));(first|(apply Xab 0 rfl;(first|exact Xar _ rfl|exact Xap _ rfl))|(apply Xab 12 rfl;(first|exact XbI _ _ 5 _ a rfl (by kernel_rfl) (by kernel_rfl) (by kernel_rfl) (Src.sq rfl)|exact XbI _ _ 5 _ d rfl (by kernel_rfl) (by kernel_rfl) (by kernel_rfl) (Src.sq rfl)))|(apply XaD;(case hs=>(intro _ _ h;cases h));(case hx=>rfl);(case hrun=>(intro w;simp [wtb,AV.val,go_sem];(try go_bits);rfl))))));(case hT=>((try simp only [wtn,Xu9,Xu6,Xu7,Xva,Xve,Nat.reduceAdd,Nat.reduceMul,Nat.reduceSub,↓reduceIte,Nat.reduceEqDiff]);rfl)))|fail))
 refine Xaf _ _ (Xbi rfl (RV.tmp _) (XaH.mk' [] _ (Xu5 _) (XaB.refl _ _) (VwL.refl _ _))) ?_
 exact ⟨rfl,rfl⟩
theorem XtQ (a d:EF):Xa8 Tryz.prog 38 [] [.agg a.cells,.agg d.cells] (fun r H'=>r=.x (.bool (Xek a d))∧H'=[]):=by
 unfold EF.cells
 refine XaE Tryz.func38 rfl ?_
 simp only [Tryz.ntmps38,Xu8,Xvb,Xvc,Xvd,Xvg,Xvf,Nat.reduceAdd,Nat.reduceSub]
 (repeat' (first|with_reducible (first|refine Xai ?_|refine Xac ?_|refine Xas ?_|refine Xaw ?_|refine Xae ?_|refine Xaa ?_|refine Xay ?_)|(refine Xal _ rfl (fun h=>?_) (fun h=>?_)<;>((try (simp only [whn] at h));skip))|((first|apply Xad rfl|apply Xbe _ _ rfl rfl rfl);(case h=>((try (intro (hp:(_:Bool)=true);((try simp only [Bool.and_eq_true,Bool.not_eq_true',Bool.not_eq_true] at hp);(try simp only [hp,wte]);(try simp only [whn] at hp))));(first|(apply Xab 0 rfl;(first|exact Xar _ rfl|exact Xap _ rfl))|(apply Xab 1 rfl;(first|exact XbH _ _ _ _ _ rfl rfl rfl rfl|exact XeK _ _ _ _ _ rfl rfl rfl rfl))|(apply Xab 5 rfl;(exact Xam _ _ _ _ _ _ rfl rfl Xa3.out))|(apply Xab 6 rfl;(exact Xaz _ _ _ _ _ _ _ _ rfl rfl XaU.out XaM.out (by first|exact Xu4 rfl|fail) (by first|exact Xu4 rfl|fail)))|(apply Xab 11 rfl;(exact XaA 68 Tryz.f68 _ _ rfl rfl Tryz.func68 (by decide) rfl (VwL.refl _ _) (XpB a.data d.data)))|(apply XaD;(case hs=>(intro _ _ h;cases h));(case hx=>rfl);(case hrun=>(intro w;simp [wtb,AV.val,go_sem];(try go_bits);rfl))))));(case hT=>((try simp only [wtn,Xu9,Xu6,Xu7,Xva,Xve,Nat.reduceAdd,Nat.reduceMul,Nat.reduceSub,↓reduceIte,Nat.reduceEqDiff]);rfl)))|(refine Xah rfl ?_;((refine Xaq 15 rfl ?_;(refine Xbx _ _ rfl (by first|rfl|fail) (fun b=>?_)));apply Xag;(case hT=>((try simp only [wtn,Xu9,Xu6,Xu7,Xva,Xve,Nat.reduceAdd,Nat.reduceMul,Nat.reduceSub,↓reduceIte,Nat.reduceEqDiff]);rfl));(case hH=>((try simp only [wtn,Xu9,Xu6,Xu7,Xva,Xve,Nat.reduceAdd,Nat.reduceMul,Nat.reduceSub,↓reduceIte,Nat.reduceEqDiff]);rfl))))|fail))
 ·refine Xaf _ _ (Xbi rfl (RV.tmp _) (XaH.mk' [_,_] [] (Xu5 _) XaB.nil (VwL.refl _ _))) ?_
  refine ⟨?_,rfl⟩
  have e:Xek a d=false:=by
   unfold Xek
   rw [Bool.eq_false_iff]
   intro h2
   simp only [Bool.and_eq_true,beq_iff_eq] at h2
   obtain ⟨⟨⟨⟨⟨⟨⟨h3,h4⟩,h5⟩,h6⟩,-⟩,-⟩,-⟩,-⟩:=h2
   simp [h3,h4,h5,h6] at h
  rw [e];rfl
 ·refine Xaf _ _ (Xbi rfl (RV.tmp _) (XaH.mk' [_,_] [] (Xu5 _) XaB.nil (VwL.refl _ _))) ?_
  refine ⟨?_,rfl⟩
  have q1:a.kind=d.kind∧a.job=d.job∧a.ok=d.ok∧a.code=d.code:=by simpa [and_assoc] using h
  obtain ⟨h3,h4,h5,h6⟩:=q1
  have e:Xek a d=(a.time == d.time && a.client == d.client && a.num == d.num && a.data == d.data):=by
   unfold Xek
   rw [h3,h4,h5,h6]
   simp only [beq_self_eq_true,Bool.true_and]
   cases (a.data == d.data)<;>cases (a.time == d.time)<;>cases (a.client == d.client)<;>cases (a.num == d.num)<;>rfl
  rw [e];rfl
theorem Xn3 (be:Nat) (e:EF) (wd fs:List UInt8) (kd:Int):Xa8 Tryz.prog 32 [.box be e.cells] [.x (.agg #[.string (bs wd),.int .i64 kd,.string (bs fs)]),.x (.pointer (some ⟨be,0,none⟩))] (fun r H'=>r=.x (.bool (kd == e.kind))∧H'=[.box be e.cells]):=by
 unfold EF.cells
 refine XaE Tryz.func32 rfl ?_
 simp only [Tryz.ntmps32,Xu8,Xvb,Xvc,Xvd,Xvg,Xvf,Nat.reduceAdd,Nat.reduceSub]
 (repeat' (first|with_reducible (first|refine Xai ?_|refine Xac ?_|refine Xas ?_|refine Xae ?_|refine Xaa ?_)|((apply Xad rfl);(case h=>((try (intro (hp:(_:Bool)=true);((try simp only [Bool.and_eq_true,Bool.not_eq_true',Bool.not_eq_true] at hp);(try simp only [hp,wte]);(try simp only [whn] at hp))));(first|(apply Xab 0 rfl;(exact Xap _ rfl))|(apply Xab 5 rfl;(exact Xam _ _ _ _ _ _ rfl rfl Xa3.out))|(apply Xab 6 rfl;(exact Xaz _ _ _ _ _ _ _ _ rfl rfl XaU.out XaM.out (by first|exact Xu4 rfl|fail) (by first|exact Xu4 rfl|fail)))|(apply XaD;(case hs=>(intro _ _ h;cases h));(case hx=>rfl);(case hrun=>(intro w;simp [wtb,AV.val,go_sem];(try go_bits);rfl))))));(case hT=>((try simp only [wtn,Xu9,Xu6,Xu7,Xva,Xve,Nat.reduceAdd,Nat.reduceMul,Nat.reduceSub,↓reduceIte,Nat.reduceEqDiff]);rfl)))|(refine Xah rfl ?_;((refine Xaq 15 rfl ?_;(refine Xbx _ _ rfl (by first|rfl|fail) (fun b=>?_)));apply Xag;(case hT=>((try simp only [wtn,Xu9,Xu6,Xu7,Xva,Xve,Nat.reduceAdd,Nat.reduceMul,Nat.reduceSub,↓reduceIte,Nat.reduceEqDiff]);rfl));(case hH=>((try simp only [wtn,Xu9,Xu6,Xu7,Xva,Xve,Nat.reduceAdd,Nat.reduceMul,Nat.reduceSub,↓reduceIte,Nat.reduceEqDiff]);rfl))))|fail))
 refine Xaf _ _ (Xbi rfl (RV.tmp _) (XaH.mk' [_] [_] (Xu5 _) (XaB.refl _ _) (VwL.refl _ _))) ?_
 exact ⟨rfl,rfl⟩
theorem Xts (be:Nat) (e:EF):Xa8 Tryz.prog 31 [.box be e.cells] [.x (.func (.func 32) #[] #[.pointer (some ⟨be,0,none⟩)])] (fun r H'=>H'=[.box be e.cells]∧((∃(k:Nat) (wd:List UInt8) (kd:Int) (fs:List UInt8),k < 14∧Xhg k=(wd,kd,fs)∧kd=e.kind∧r=.tup [.x (.agg #[.string (bs wd),.int .i64 kd,.string (bs fs)]),.x (.bool true)])∨((∀k,k < 14→(Xhg k).2.1≠e.kind)∧r=Xlm))):=by
 refine XaE Tryz.func31 rfl ?_
 simp only [Tryz.ntmps31,Xu8,Xvb,Xvc,Xvd,Xvg,Xvf,Nat.reduceAdd,Nat.reduceSub]
 (repeat' (first|with_reducible (first|refine Xai ?_|refine Xac ?_|refine Xat ?_|refine Xae ?_|refine Xaa ?_)|((apply Xad rfl);(case h=>((try (intro (hp:(_:Bool)=true);((try simp only [Bool.and_eq_true,Bool.not_eq_true',Bool.not_eq_true] at hp);(try simp only [hp,wte]);(try simp only [whn] at hp))));(first|(apply Xab 0 rfl;(first|exact Xar _ rfl|exact Xap _ rfl))|(apply Xab 6 rfl;(exact Xem rfl)))));(case hT=>((try simp only [wtn,Xu9,Xu6,Xu7,Xva,Xve,Nat.reduceAdd,Nat.reduceMul,Nat.reduceSub,↓reduceIte,Nat.reduceEqDiff]);rfl)))|(refine Xah rfl ?_;((refine Xaq 14 rfl ?_;(refine XaJ _ _ rfl Xbl.out rfl (fun b=>?_)));apply Xag;(case hT=>((try simp only [wtn,Xu9,Xu6,Xu7,Xva,Xve,Nat.reduceAdd,Nat.reduceMul,Nat.reduceSub,↓reduceIte,Nat.reduceEqDiff]);rfl));(case hH=>((try simp only [wtn,Xu9,Xu6,Xu7,Xva,Xve,Nat.reduceAdd,Nat.reduceMul,Nat.reduceSub,↓reduceIte,Nat.reduceEqDiff]);rfl))))|fail))
 revert b
 intro br
 apply XaW (S:=Nat) (fun k=>frm 16 [(0,.x (.func (.func 32) #[] #[.pointer (some ⟨be,0,none⟩)])),(2,.x (.pointer (some ⟨br,0,none⟩))),(3,.x (.bool false)),(6,.x (.agg Xby.toArray)),(7,.x (.int .i64 k))]) (fun _=>[.box br [.x (.string (bs [])),.x (.int .i64 0),.x (.string (bs []))],.box be e.cells])
  (fun k=>k≤14∧∀i,i < k→(Xhg i).2.1≠e.kind) (fun k=>14 - k) 0
 case h0=>exact (XaH.mk' [] _ (Xu5 _) (XaB.refl _ _) (by (repeat' (first|exact VwL.nil|(refine VwL.cons ?_ ?_)|exact Vw.refl _|fail))))
 case hi=>exact ⟨Nat.zero_le _,fun i hi=>by omega⟩
 rintro k ⟨k1,hw⟩
 have hw':=Lib.hid hw
 clear hw
 simp only [frm,Xvc,Xvd,Xu6,Xu7,Xvj,Xvk]
 by_cases hk:k < 14
 ·obtain ⟨⟨wd,kd,fs⟩,hfk⟩:∃f,Xhg k=f:=⟨_,rfl⟩
  have he:=Xn3 be e wd fs kd
  have hfk':=Lib.hid hfk
  clear hfk
  (repeat' (first|with_reducible (first|refine Xai ?_|refine Xac ?_|refine Xat ?_|refine Xas ?_|refine Xaw ?_|refine Xae ?_|refine Xaa ?_|refine Xay ?_|refine Xaj ?_|refine Xax ?_)|(refine Xal _ rfl (fun h=>?_) (fun h=>?_)<;>((try (simp only [whn] at h));first|(exfalso;omega;done)|skip))|((apply Xad rfl);(case h=>((try (intro (hp:(_:Bool)=true);((try simp only [Bool.and_eq_true,Bool.not_eq_true',Bool.not_eq_true] at hp);(try simp only [hp,wte]);(try simp only [whn] at hp))));(first|(apply Xab 0 rfl;(first|exact Xar _ rfl|exact Xap _ rfl))|(apply Xab 6 rfl;(exact Xaz _ _ _ _ _ _ _ _ rfl rfl XaU.out XaM.out (by first|exact Xu4 rfl|fail) (by first|exact Xu4 rfl|fail)))|(apply Xab 8 rfl;(exact Xdb rfl rfl rfl hfk'.out rfl hk))|(apply XaD;(case hs=>(intro _ _ h;cases h));(case hx=>rfl);(case hrun=>(intro w;simp [wtb,AV.val,go_sem];(try go_bits);rfl))))));(case hT=>((try simp only [wtn,Xu9,Xu6,Xu7,Xva,Xve,Nat.reduceAdd,Nat.reduceMul,Nat.reduceSub,↓reduceIte,Nat.reduceEqDiff]);rfl)))|(refine Xah rfl ?_;((first|(refine Xaq 11 rfl ?_;(refine Xak 32 Tryz.f32 [_] _ _ _ rfl rfl Tryz.func32 (by decide) rfl (Xvi (l₁:=[_,_])) (VwL.refl _ _) (he) ?_;rintro _ _ ⟨rfl,rfl⟩))|(refine Xaq 14 rfl ?_;(refine XaJ _ _ rfl Xbl.out rfl (fun b=>?_)))|(refine Xaq 16 rfl ?_;(refine Xau _ _ _ _ _ _ _ rfl rfl XaU.out XaS.out (by first|rfl|fail) (by first|exact Xu4 rfl|fail) ?_)));apply Xag;(case hT=>((try simp only [wtn,Xu9,Xu6,Xu7,Xva,Xve,Nat.reduceAdd,Nat.reduceMul,Nat.reduceSub,↓reduceIte,Nat.reduceEqDiff]);rfl));(case hH=>((try simp only [wtn,Xu9,Xu6,Xu7,Xva,Xve,Nat.reduceAdd,Nat.reduceMul,Nat.reduceSub,↓reduceIte,Nat.reduceEqDiff]);rfl))))|fail))
  ·refine Xaf _ _ (Xc7 rfl (RV.cell 2 rfl rfl XaM.out (by simp) (by simp)) (RV.tmp _) (XaH.mk' [.box b _,.box br _] [.box be _] (by (repeat' (first|exact Xu5 _|refine (Xvi (l₁:=[_])).trans (Xvl _ ?_)|fail))) (XaB.refl _ _) (VwL.refl _ _))) ?_
   exact ⟨rfl,.inl ⟨k,wd,kd,fs,hk,hfk'.out,h,rfl⟩⟩
  ·have hne:¬kd=e.kind:=h
   refine ⟨k+1,by omega,⟨by omega,fun i hi=>?_⟩,XaH.mk' [.box b _] [.box br _,.box be _] (by (repeat' (first|exact Xu5 _|refine (Xvi (l₁:=[_])).trans (Xvl _ ?_)|fail))) (XaB.refl _ _) (by (repeat' (first|exact VwL.nil|(refine VwL.cons ?_ ?_)|exact Vw.refl _|exact Vw.top _|fail)))⟩
   rcases Nat.lt_or_ge i k with h5|h5
   ·exact hw'.out i h5
   ·obtain rfl:i=k:=by omega
    rw [hfk'.out];exact hne
 ·obtain rfl:k=14:=by omega
  (repeat' (first|with_reducible (first|refine Xai ?_|refine Xac ?_|refine Xas ?_|refine Xa4 ?_|refine Xae ?_|refine Xaa ?_|refine XaN ?_|refine XaK ?_)|(refine Xal _ rfl (fun h=>?_) (fun h=>?_)<;>first|(exact absurd h (by decide))|((try (simp only [whn] at h));skip))|((apply Xad rfl);(case h=>((try (intro (hp:(_:Bool)=true);((try simp only [Bool.and_eq_true,Bool.not_eq_true',Bool.not_eq_true] at hp);(try simp only [hp,wte]);(try simp only [whn] at hp))));(first|(apply Xab 0 rfl;(exact Xap _ rfl))|(apply Xab 10 rfl;(exact XaY _ _ _ _ _ rfl HPl.out (by first|rfl|fail) rfl))|(apply XaD;(case hs=>(intro _ _ h;cases h));(case hx=>rfl);(case hrun=>(intro w;simp [wtb,AV.val,go_sem];(try go_bits);rfl))))));(case hT=>((try simp only [wtn,Xu9,Xu6,Xu7,Xva,Xve,Nat.reduceAdd,Nat.reduceMul,Nat.reduceSub,↓reduceIte,Nat.reduceEqDiff]);rfl)))|(refine Xah rfl ?_;((refine Xaq 16 rfl ?_;(refine Xau _ _ _ _ _ _ _ rfl rfl XaU.out XaS.out (by first|rfl|fail) (by first|exact Xu4 rfl|fail) ?_));apply Xag;(case hT=>((try simp only [wtn,Xu9,Xu6,Xu7,Xva,Xve,Nat.reduceAdd,Nat.reduceMul,Nat.reduceSub,↓reduceIte,Nat.reduceEqDiff]);rfl));(case hH=>((try simp only [wtn,Xu9,Xu6,Xu7,Xva,Xve,Nat.reduceAdd,Nat.reduceMul,Nat.reduceSub,↓reduceIte,Nat.reduceEqDiff]);rfl))))|fail))
  refine Xaf _ _ (Xc7 rfl (RV.cell 0 rfl rfl XaM.out (by simp) (by simp)) (RV.tmp _) (XaH.mk' [_] [_] (Xu5 _) (XaB.refl _ _) (VwL.refl _ _))) ?_
  exact ⟨rfl,.inr ⟨hw'.out,rfl⟩⟩
theorem Xr0 (i:Nat) (h:i < 14):∃k,k < 14∧(Xhg k).2.1=((i+1:Nat):Int):=by
 match i,h with
 | 0,_=>exact ⟨0,by decide⟩
 | 1,_=>exact ⟨1,by decide⟩
 | 2,_=>exact ⟨2,by decide⟩
 | 3,_=>exact ⟨3,by decide⟩
 | 4,_=>exact ⟨4,by decide⟩
 | 5,_=>exact ⟨5,by decide⟩
 | 6,_=>exact ⟨6,by decide⟩
 | 7,_=>exact ⟨7,by decide⟩
 | 8,_=>exact ⟨8,by decide⟩
 | 9,_=>exact ⟨9,by decide⟩
 | 10,_=>exact ⟨10,by decide⟩
 | 11,_=>exact ⟨12,by decide⟩
 | 12,_=>exact ⟨11,by decide⟩
 | 13,_=>exact ⟨13,by decide⟩
theorem XpW {k:Nat} {wd fs:List UInt8} {kd:Int} {e:EF} (hk:k < 14) (hf:Xhg k=(wd,kd,fs)) (he:kd=e.kind):XiM e.kind=wd∧XiL e.kind=fs.map (fun c=>XbA c.toNat)∧∀c∈fs,c.toNat < 128∧((c.toNat:Int)=106∨(c.toNat:Int)=119∨(c.toNat:Int)=100∨(c.toNat:Int)=97∨(c.toNat:Int)=99∨(c.toNat:Int)=108∨(c.toNat:Int)=110):=by
 obtain ⟨i,hi,h1,h2,h3,h4⟩:=Xtv k hk
 rw [hf] at h1 h2 h3 h4
 simp only at h1 h2 h3 h4
 rw [←he,h1]
 unfold XiM XiL
 rw [if_pos (by omega),if_pos (by omega),show ((i+1:Nat):Int).toNat - 1=i from by omega]
 exact ⟨h2,h3,h4⟩
theorem Xn2 {e:EF} (h:∀k,k < 14→(Xhg k).2.1≠e.kind):XiM e.kind=[]∧XiL e.kind=[]:=by
 have hn:¬(1≤e.kind∧e.kind≤14):=fun ⟨a,b⟩=>by
  obtain ⟨k,hk,hq⟩:=Xr0 (e.kind.toNat - 1) (by omega)
  exact h k hk (by rw [hq];omega)
 unfold XiM XiL
 rw [if_neg hn,if_neg hn]
 exact ⟨rfl,rfl⟩
open Go.Shelf Go.RowKit
theorem Xul (B b:Nat) (bs:List Value) (s:ByteArray) (w:World) (h:Lib.IsBuilder 74 5 B b bs w) (hlen:bs.length+s.size≤140737488355328) (hBw:B≤w.heap.size) :
  Calls Tryz.prog 33 #[.pointer (some ⟨b,0,none⟩),.string s] w fun e w'=>e=.returned (.tuple #[.int .i64 s.size,.nilIface])∧(Lib.BuilderAt 74 5 B b (.pointer (some ⟨b,0,none⟩)) (bs++Lib.strCells s) w'∧Below B w w'):=by
 obtain ⟨i0,hi,hz0,hz1,hz2⟩:=info_parts Xa5.infoByte
 go_enter Tryz.func33,Tryz.ntmps33
 go_wp2_with (go_at_call 64;refine (Xq7 B b bs _ h).mono ?_)
 rintro e w1 ⟨rfl,h1,hb1⟩
 obtain ⟨hB,v,hbk,hown,hne⟩:=h1
 have c0:w1.cell? ⟨b,0,none⟩=some (.pointer (some ⟨b,0,none⟩)):=by rw [Lib.cell_of_heap hbk];rfl
 have c1:w1.cell? ⟨b,1,none⟩=some v:=by rw [Lib.cell_of_heap hbk];rfl
 go_wp2_with (at_builtin;refine Lib.wpList_append_own_string _ rfl _ _ 39 9 rfl B 5 i0 Tryz.underlying39 Tryz.underlying9 hi hz0 hz1 hz2 _ _ _ rfl hown s rfl ?c3 ?c4 ?c5 ?_)
 case c3=>unfold maxLen;omega
 case c4=>omega
 case c5=>have:=hb1.size;omega
 intro v' w2 hown' hgrow _
 have hlt:b < w1.heap.size:=by
  rcases Nat.lt_or_ge b w1.heap.size with h'|h'
  ·exact h'
  ·simp [Array.getElem?_eq_none h'] at hbk
 have hb2:w2.heap[b]?=some (.cells #[.pointer (some ⟨b,0,none⟩),v] 74 (0,0)):=by
  rw [hgrow.block b hlt (fun e=>hne e.symm)]
  exact hbk
 have d0:w2.cell? ⟨b,0,none⟩=some (.pointer (some ⟨b,0,none⟩)):=by rw [Lib.cell_of_heap hb2];rfl
 have d1:w2.cell? ⟨b,1,none⟩=some v:=by rw [Lib.cell_of_heap hb2];rfl
 have f1:w2.frozen? ⟨b,1,none⟩=false:=Lib.frozen_of_heap hb2 1
 obtain ⟨ao,n',cap,rfl⟩:∃ao n' cap,v'=.slice ao n' cap:=by
  rcases hown'.2 with ⟨hv,_⟩|⟨g,cap,cur,hv,_⟩
  ·exact ⟨_,_,_,hv⟩
  ·exact ⟨_,_,_,hv⟩
 go_wp2
 go_ret2
 refine ⟨rfl,?_,?_⟩
 ·exact Lib.BuilderAt.put (T:=74) (e:=5) hB hb2 (bs':=bs++Lib.strCells s) (by simpa [Lib.strCells_length] using hown') Xa5.neB5
 ·exact (hb1.grown hgrow (by have:=hb1.size;omega) (fun k hk=>(hown.lt k hk).1)).setCell (p:=⟨b,1,none⟩) hB _
theorem Xd9 (a b:List UInt8):Lib.byteCells (a++b)=Lib.byteCells a++Lib.byteCells b:=by simp [Lib.byteCells]
theorem Xk6:∀(i:Nat) (h:i < (ByteArray.mk #[48,49,50,51,52,53,54,55,56,57,97,98,99,100,101,102]).size),(ByteArray.mk #[48,49,50,51,52,53,54,55,56,57,97,98,99,100,101,102])[i]=XgU.getD i 0
 | 0,_=>rfl
 | 1,_=>rfl
 | 2,_=>rfl
 | 3,_=>rfl
 | 4,_=>rfl
 | 5,_=>rfl
 | 6,_=>rfl
 | 7,_=>rfl
 | 8,_=>rfl
 | 9,_=>rfl
 | 10,_=>rfl
 | 11,_=>rfl
 | 12,_=>rfl
 | 13,_=>rfl
 | 14,_=>rfl
 | 15,_=>rfl
 | n+16,h=>absurd h (by simp [ByteArray.size])
theorem Xsv (l:List UInt8) (w:World) (hl:l.length≤2000000):Calls Tryz.prog 66 #[.string (bs l)] w fun e w'=>e=.returned (.string (bs (Xcq l)))∧Ext w w':=by
 go_enter Tryz.func66,Tryz.ntmps66
 go_wp2_with fail
 refine Calls.mono (Xd2 w.heap.size w.heap.size [] 34 _ (.inl ⟨Nat.le_refl _,.slice none 0 0,by unfold World.alloc;exact Array.getElem?_push_size,⟨rfl,.inl ⟨rfl,rfl⟩⟩,by intro h;cases h⟩) (by simp) (by simp)) ?_
 rintro e w0 ⟨rfl,hB0,hb0⟩
 have hE0:Ext w w0:=Below.trans (Ext.al _ _) hb0
 go_wp2_with fail
 go_loopw [4] (fun i wr=>∃(k:Nat),k≤l.length∧i=.int .i64 k∧Lib.IsBuilder 74 5 w.heap.size w.heap.size (Lib.byteCells (XfG (l.take k))) wr∧Ext w wr) (fun i _=>l.length - (intOf i).toNat)
 case atStart=>exact ⟨0,Nat.zero_le _,rfl,.inr hB0,hE0⟩
 case round=>
  obtain ⟨k,h1,rfl,hB,hE⟩:=hrel
  have hz:w.heap.size≤wr.heap.size:=hE.size
  have hel:=XhR (l.take k)
  rw [List.length_take,Nat.min_eq_left h1] at hel
  have hbl:(Lib.byteCells (XfG (l.take k))).length=(XfG (l.take k)).length:=by simp [Lib.byteCells]
  obtain ⟨out,hout'⟩:∃out,XfG (l.take k)=out:=⟨_,rfl⟩
  rw [hout'] at hB hel hbl
  have hout':=Lib.hid hout'
  by_cases hlt:k < l.length
  ·have hsu:=Lib.hid (XiU l k hlt)
   rw [hout'.out] at hsu
   by_cases c34:l[k].toNat=34
   ·have hq:Hid (XdM l[k]=[92,l[k]]):=Lib.hid (by unfold XdM;rw [if_pos (by omega)])
    have b1:((l[k].toNat:Int) == 34)=true:=by rw [beq_iff_eq];omega
    clear c34
    go_wp2_with fail
    refine Calls.mono (Xd2 w.heap.size w.heap.size (Lib.byteCells out) 92 _ hB (by omega) hz) ?_
    rintro e w1 ⟨rfl,hB2,hb2⟩
    rw [show (Value.int IntKind.u8 92)=.int .u8 ((92:UInt8).toNat:Nat) from rfl,Xbn] at hB2
    have hz1:w.heap.size≤w1.heap.size:=Nat.le_trans hz hb2.size
    have hbl1:(Lib.byteCells (out++[92])).length=out.length+1:=by simp [Lib.byteCells]
    go_wp2_with fail
    refine Calls.mono (Xd2 w.heap.size w.heap.size (Lib.byteCells (out++[92])) l[k].toNat _ (.inr hB2) (by omega) hz1) ?_
    rintro e w2 ⟨rfl,hB3,hb3⟩
    rw [Xbn] at hB3
    go_wp2_with fail
    go_roundw
    case rel=>exact ⟨k+1,by omega,by go_num,.inr (by rw [hsu.out,hq.out,show out++[92,l[k]]=out++[92]++[l[k]] by simp];exact hB3),Below.trans (Below.trans hE hb2) hb3⟩
    case measure=>simp [intOf];omega
   have b1:((l[k].toNat:Int) == 34)=false:=by rw [Xvm];omega
   by_cases c92:l[k].toNat=92
   ·have hq:Hid (XdM l[k]=[92,l[k]]):=Lib.hid (by unfold XdM;rw [if_pos (by omega)])
    have b2:((l[k].toNat:Int) == 92)=true:=by rw [beq_iff_eq];omega
    clear c92 c34
    go_wp2_with fail
    refine Calls.mono (Xd2 w.heap.size w.heap.size (Lib.byteCells out) 92 _ hB (by omega) hz) ?_
    rintro e w1 ⟨rfl,hB2,hb2⟩
    rw [show (Value.int IntKind.u8 92)=.int .u8 ((92:UInt8).toNat:Nat) from rfl,Xbn] at hB2
    have hz1:w.heap.size≤w1.heap.size:=Nat.le_trans hz hb2.size
    have hbl1:(Lib.byteCells (out++[92])).length=out.length+1:=by simp [Lib.byteCells]
    go_wp2_with fail
    refine Calls.mono (Xd2 w.heap.size w.heap.size (Lib.byteCells (out++[92])) l[k].toNat _ (.inr hB2) (by omega) hz1) ?_
    rintro e w2 ⟨rfl,hB3,hb3⟩
    rw [Xbn] at hB3
    go_wp2_with fail
    go_roundw
    case rel=>exact ⟨k+1,by omega,by go_num,.inr (by rw [hsu.out,hq.out,show out++[92,l[k]]=out++[92]++[l[k]] by simp];exact hB3),Below.trans (Below.trans hE hb2) hb3⟩
    case measure=>simp [intOf];omega
   have b2:((l[k].toNat:Int) == 92)=false:=by rw [Xvm];omega
   by_cases c10:l[k].toNat=10
   ·have hq:Hid (XdM l[k]=[92,110]):=Lib.hid (by unfold XdM;rw [if_neg (by omega),if_pos c10])
    have b3:((l[k].toNat:Int) == 10)=true:=by rw [beq_iff_eq];omega
    clear c10
    go_wp2_with fail
    refine Calls.mono (Xul w.heap.size w.heap.size (Lib.byteCells out) (bs [92,110]) _ hB (by rw [XdT];simp only [Xu8,Xvb];omega) hz) ?_
    rintro e w1 ⟨rfl,hB2,hb2⟩
    rw [show Lib.byteCells out++Lib.strCells (bs [92,110])=Lib.byteCells (out++[92,110]) by rw [Xd9];rfl] at hB2
    go_wp2_with fail
    go_roundw
    case rel=>exact ⟨k+1,by omega,by go_num,.inr (by rw [hsu.out,hq.out];exact hB2),Below.trans hE hb2⟩
    case measure=>simp [intOf];omega
   have b3:((l[k].toNat:Int) == 10)=false:=by rw [Xvm];omega
   by_cases c9:l[k].toNat=9
   ·have hq:Hid (XdM l[k]=[92,116]):=Lib.hid (by unfold XdM;rw [if_neg (by omega),if_neg c10,if_pos c9])
    have b3:((l[k].toNat:Int) == 9)=true:=by rw [beq_iff_eq];omega
    clear c9
    go_wp2_with fail
    refine Calls.mono (Xul w.heap.size w.heap.size (Lib.byteCells out) (bs [92,116]) _ hB (by rw [XdT];simp only [Xu8,Xvb];omega) hz) ?_
    rintro e w1 ⟨rfl,hB2,hb2⟩
    rw [show Lib.byteCells out++Lib.strCells (bs [92,116])=Lib.byteCells (out++[92,116]) by rw [Xd9];rfl] at hB2
    go_wp2_with fail
    go_roundw
    case rel=>exact ⟨k+1,by omega,by go_num,.inr (by rw [hsu.out,hq.out];exact hB2),Below.trans hE hb2⟩
    case measure=>simp [intOf];omega
   have b4:((l[k].toNat:Int) == 9)=false:=by rw [Xvm];omega
   by_cases c32:l[k].toNat < 32
   ·have hq:Hid (XdM l[k]=[92,120,XgU.getD (l[k].toNat / 16) 0,XgU.getD (l[k].toNat % 16) 0]):=Lib.hid (by unfold XdM;rw [if_neg (by omega),if_neg c10,if_neg c9,if_pos (.inl c32)])
    clear c34 c92 c10 c9
    go_wp2_with fail
    refine Calls.mono (Xul w.heap.size w.heap.size (Lib.byteCells out) (bs [92,120]) _ hB (by rw [XdT];simp only [Xu8,Xvb];omega) hz) ?_
    rintro e w1 ⟨rfl,hB2,hb2⟩
    rw [show Lib.byteCells out++Lib.strCells (bs [92,120])=Lib.byteCells (out++[92,120]) by rw [Xd9];rfl] at hB2
    have hz1:w.heap.size≤w1.heap.size:=Nat.le_trans hz hb2.size
    have hbl1:(Lib.byteCells (out++[92,120])).length=out.length+2:=by simp [Lib.byteCells]
    go_wp2_with fail
    refine Calls.mono (Xd2 w.heap.size w.heap.size (Lib.byteCells (out++[92,120])) _ _ (.inr hB2) (by omega) hz1) ?_
    rintro e w2 ⟨rfl,hB3,hb3⟩
    rw [Xk6,Xbn] at hB3
    have hz2:w.heap.size≤w2.heap.size:=Nat.le_trans hz1 hb3.size
    have hbl2:(Lib.byteCells (out++[92,120]++[XgU.getD (l[k].toNat / 16) 0])).length=out.length+3:=by simp [Lib.byteCells]
    go_wp2_with fail
    refine Calls.mono (Xd2 w.heap.size w.heap.size (Lib.byteCells (out++[92,120]++[XgU.getD (l[k].toNat / 16) 0])) _ _ (.inr hB3) (by omega) hz2) ?_
    rintro e w3 ⟨rfl,hB4,hb4⟩
    rw [Xk6,Xbn] at hB4
    go_wp2_with fail
    go_roundw
    case rel=>exact ⟨k+1,by omega,by go_num,.inr (by rw [hsu.out,hq.out];simpa only [List.append_assoc,Xvg,Xvf] using hB4),Below.trans (Below.trans (Below.trans hE hb2) hb3) hb4⟩
    case measure=>simp [intOf];omega
   by_cases c127:l[k].toNat=127
   ·have hq:Hid (XdM l[k]=[92,120,XgU.getD (l[k].toNat / 16) 0,XgU.getD (l[k].toNat % 16) 0]):=Lib.hid (by unfold XdM;rw [if_neg (by omega),if_neg c10,if_neg c9,if_pos (.inr c127)])
    have b5:((l[k].toNat:Int) == 127)=true:=by rw [beq_iff_eq];omega
    have g1:(l[k].toNat:Int) / 16 < 16:=by omega
    have g2:l[k].toNat / 16 < 16:=by omega
    clear c127
    clear c34 c92 c10 c9
    go_wp2_with fail
    refine Calls.mono (Xul w.heap.size w.heap.size (Lib.byteCells out) (bs [92,120]) _ hB (by rw [XdT];simp only [Xu8,Xvb];omega) hz) ?_
    rintro e w1 ⟨rfl,hB2,hb2⟩
    rw [show Lib.byteCells out++Lib.strCells (bs [92,120])=Lib.byteCells (out++[92,120]) by rw [Xd9];rfl] at hB2
    have hz1:w.heap.size≤w1.heap.size:=Nat.le_trans hz hb2.size
    have hbl1:(Lib.byteCells (out++[92,120])).length=out.length+2:=by simp [Lib.byteCells]
    go_wp2_with fail
    refine Calls.mono (Xd2 w.heap.size w.heap.size (Lib.byteCells (out++[92,120])) _ _ (.inr hB2) (by omega) hz1) ?_
    rintro e w2 ⟨rfl,hB3,hb3⟩
    rw [Xk6,Xbn] at hB3
    have hz2:w.heap.size≤w2.heap.size:=Nat.le_trans hz1 hb3.size
    have hbl2:(Lib.byteCells (out++[92,120]++[XgU.getD (l[k].toNat / 16) 0])).length=out.length+3:=by simp [Lib.byteCells]
    go_wp2_with fail
    refine Calls.mono (Xd2 w.heap.size w.heap.size (Lib.byteCells (out++[92,120]++[XgU.getD (l[k].toNat / 16) 0])) _ _ (.inr hB3) (by omega) hz2) ?_
    rintro e w3 ⟨rfl,hB4,hb4⟩
    rw [Xk6,Xbn] at hB4
    go_wp2_with fail
    go_roundw
    case rel=>exact ⟨k+1,by omega,by go_num,.inr (by rw [hsu.out,hq.out];simpa only [List.append_assoc,Xvg,Xvf] using hB4),Below.trans (Below.trans (Below.trans hE hb2) hb3) hb4⟩
    case measure=>simp [intOf];omega
   have b5:((l[k].toNat:Int) == 127)=false:=by rw [Xvm];omega
   have hq:Hid (XdM l[k]=[l[k]]):=Lib.hid (by unfold XdM;rw [if_neg (by omega),if_neg c10,if_neg c9,if_neg (by omega)])
   clear c34 c92 c10 c9 c127
   go_wp2_with fail
   refine Calls.mono (Xd2 w.heap.size w.heap.size (Lib.byteCells out) l[k].toNat _ hB (by omega) hz) ?_
   rintro e w1 ⟨rfl,hB2,hb2⟩
   rw [Xbn] at hB2
   go_wp2_with fail
   go_roundw
   case rel=>exact ⟨k+1,by omega,by go_num,.inr (by rw [hsu.out,hq.out];exact hB2),Below.trans hE hb2⟩
   case measure=>simp [intOf];omega
  ·obtain rfl:k=l.length:=by omega
   go_wp2_with fail
   refine Calls.mono (Xd2 w.heap.size w.heap.size (Lib.byteCells out) 34 _ hB (by omega) hz) ?_
   rintro e w1 ⟨rfl,hB2,hb2⟩
   rw [show (Value.int IntKind.u8 34)=.int .u8 ((34:UInt8).toNat:Nat) from rfl,Xbn] at hB2
   go_wp2_with (go_at_call 37;refine (Builder_String_any w.heap.size w.heap.size (out++[34]) _ (.inr hB2) (Nat.le_trans hz hb2.size)).mono ?_;rintro e w2 ⟨rfl,hb3⟩)
   go_ret
   exact ⟨by rw [←hout'.out,List.take_length];simp [bs,Xcq],Below.trans (Below.trans hE hb2) hb3⟩
theorem Xqe (l:List UInt8) (hl:l.length≤2000000):Xa8 Tryz.prog 66 [] [.x (.string (bs l))] (fun r H'=>r=.x (.string (bs (Xcq l)))∧H'=[]):=
 Xcm (args:=[.string (bs l)]) (fun w=>Xsv l w hl) []
end Go.Proofs.YtdpobjakdplljaaGreatDoor
