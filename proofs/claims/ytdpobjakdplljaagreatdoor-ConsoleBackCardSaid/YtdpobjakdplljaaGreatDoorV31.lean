import Derived.Test.YtdpobjakdplljaaGreatDoorV16
import Derived.Test.YtdpobjakdplljaaGreatDoorV30
import Derived.Shelf.Strings.Search2
import Derived.Shelf.Strconv.Itoa3
import Derived.Shelf.Bytes.SlEqualAll
import Derived.Shelf.Strings.OnBuilder
/- The program's scripts: numbers of whatever text, fields. -/
set_option linter.unusedSimpArgs false
set_option linter.unusedVariables false
set_option maxRecDepth 100000
set_option maxHeartbeats 8000000
namespace Go.Proofs.YtdpobjakdplljaaGreatDoor
open Go.RowKit
theorem Xes {P:Program} {f:FuncId} {args:List Value} {Q:Value→Prop} (h:∀w,Gw w→Calls P f args.toArray w fun e w'=>∃v,e=.returned v∧Q v∧Ext w w') (H:List Hp):Xa8 P f H (args.map .x) fun r H'=>∃v,Q v∧r=.x v∧H'=H:=by
 intro V w vs hV hH hd hgl
 rw [hd.exact']
 refine (h w hgl.2).mono ?_
 rintro e w' ⟨v,rfl,hq,hE⟩
 exact ⟨.x v,H,v,⟨v,hq,rfl,rfl⟩,rfl,by rw [Den],⟨fun x hx=>(hH.ok x hx).conv (fun k hk=>.inl hk) (fun k hk _=>hE.block k hk) hE.size (fun k hk=>hE.block k (hH.lt x hx k hk).1),hH.apart,fun x hx k hk=>⟨Nat.lt_of_lt_of_le (hH.lt x hx k hk).1 hE.size,(hH.lt x hx k hk).2⟩⟩,hE.fr _,fun x hx k hk=>.inl ⟨x,hx,hk⟩⟩
theorem Xe6 (M:Nat):∀(l:List UInt8) (acc u:Nat),acc≤M→Lib.parseUintM M acc l=.ok u→u≤M
 | [],acc,u,h,e=>by rw [Lib.parseUintM] at e;cases e;exact h
 | c :: r,acc,u,h,e=>by
   rw [Lib.parseUintM] at e
   split at e
   ·split at e
    ·cases e
    ·split at e
     ·cases e
     ·exact Xe6 M r _ u (by omega) e
   ·cases e
theorem Xh5 (s:List UInt8) (hl:s.length≤100000):Xa8 Tryz.prog 90 [] [.x (.string (bs s)),.x (.int .i64 10),.x (.int .i64 64)] (fun r H'=>∃v,(∃(n:Int) (ev:Value),v=.tuple #[.int .u64 n,ev]∧0≤n∧n≤18446744073709551615)∧r=.x v∧H'=[]):=by
 refine Xes (args:=[.string (bs s),.int .i64 10,.int .i64 64]) (fun w hg=>?_) []
 cases h:Lib.parseUintB 64 (bs s).data.toList with
 | ok u=>
   refine (strconv_ParseUint_10_at64_ok (bs s) (by simp [bs,ByteArray.size];omega) u h w).mono ?_
   have hu:u≤2 ^ 64 - 1:=by
    unfold Lib.parseUintB at h
    split at h
    ·cases h
    ·exact Xe6 _ _ 0 u (Nat.zero_le _) h
   rintro e w' ⟨rfl,rfl|rfl⟩
   ·exact ⟨_,rfl,⟨u,.nilIface,rfl,by omega,by omega⟩,Below.refl _ _⟩
   ·exact ⟨_,rfl,⟨u,.nilIface,rfl,by omega,by omega⟩,by rw [XcK];exact Ext.ext _ _ _⟩
 | «syntax»=>
   obtain ⟨t,v,hv⟩:=hg.syn
   refine (strconv_ParseUint_10_at64_syntax (bs s) (by simp [bs,ByteArray.size];omega) h _ w hv (.inr ⟨_,_,rfl⟩)).mono ?_
   rintro e w' ⟨N,rfl,-,-,hE⟩
   exact ⟨_,rfl,⟨0,_,rfl,by omega,by omega⟩,hE⟩
 | range=>
   obtain ⟨t,v,hv⟩:=hg.rng
   refine (strconv_ParseUint_10_at64_range (bs s) (by simp [bs,ByteArray.size];omega) h _ w hv (.inr ⟨_,_,rfl⟩)).mono ?_
   rintro e w' ⟨N,rfl,-,-,hE⟩
   exact ⟨_,rfl,⟨18446744073709551615,_,rfl,by omega,by omega⟩,hE⟩
def XoC (acc:Nat) (l:List UInt8):Nat:=l.foldl (fun n c=>n*10+(c.toNat - 48)) acc
theorem Xmx (l:List UInt8) (hd:Xel l):∀acc,(acc+1)*10 ^ l.length≤1000000000000000000→Lib.parseUintM (2 ^ 64 - 1) acc l=.ok (XoC acc l):=by
 induction l with
 | nil=>intro acc _;rfl
 | cons c r ih=>
   intro acc h
   have hc:=hd c (List.mem_cons_self ..)
   have h10:1≤10 ^ r.length:=Nat.pow_pos (by decide)
   rw [Xu8,Nat.pow_succ] at h
   have h2:(acc+1)*10≤1000000000000000000:=by
    calc (acc+1)*10=(acc+1)*(1*10):=by omega
     _≤(acc+1)*(10 ^ r.length*10):=Nat.mul_le_mul_left _ (Nat.mul_le_mul_right _ h10)
     _≤_:=h
   have h3:(acc*10+(c.toNat - 48)+1)*10 ^ r.length≤1000000000000000000:=by
    calc (acc*10+(c.toNat - 48)+1)*10 ^ r.length≤((acc+1)*10)*10 ^ r.length:=Nat.mul_le_mul_right _ (by omega)
     _=(acc+1)*(10 ^ r.length*10):=by rw [Nat.mul_assoc,Nat.mul_comm 10]
     _≤_:=h
   rw [Lib.parseUintM,if_pos hc,if_neg (by omega),if_neg (by omega),ih (fun x hx=>hd x (List.mem_cons_of_mem _ hx)) _ h3]
   rfl
theorem Xmv (l:List UInt8) (hd:Xel l):∀acc:Nat,((XoC acc l:Nat):Int)=l.foldl (fun n c=>10*n+((c.toNat:Int) - 48)) (acc:Int):=by
 induction l with
 | nil=>intro acc;rfl
 | cons c r ih=>
   intro acc
   have hc:=hd c (List.mem_cons_self ..)
   have:=ih (fun x hx=>hd x (List.mem_cons_of_mem _ hx)) (acc*10+(c.toNat - 48))
   simp only [XoC,Xu6] at this ⊢
   rw [this]
   congr 1
   omega
theorem XmA (l:List UInt8) (hd:Xel l) (h1:1≤l.length) (h18:l.length≤18):Lib.parseUintB 64 l=.ok (XoC 0 l):=by
 unfold Lib.parseUintB
 rw [if_neg (by intro h;rw [h] at h1;simp at h1)]
 refine Xmx l hd 0 ?_
 have:=Nat.pow_le_pow_right (n:=10) (by decide) h18
 simpa using this
theorem Xji (s:List UInt8) (hd:Xel s) (h1:1≤s.length) (h18:s.length≤18):Xa8 Tryz.prog 90 [] [.x (.string (bs s)),.x (.int .i64 10),.x (.int .i64 64)] (fun r H'=>r=.x (.tuple #[.int .u64 (XdN s),.nilIface])∧H'=[]):=by
 have e:XdN s=((XoC 0 s:Nat):Int):=(Xmv s hd 0).symm
 rw [e]
 refine Xcm (args:=[.string (bs s),.int .i64 10,.int .i64 64]) (fun w=>(strconv_ParseUint_10_at64_ok (bs s) (by simp [bs,ByteArray.size];omega) _ (by simpa [bs] using XmA s hd h1 h18) w).mono ?_) []
 rintro e w' ⟨rfl,rfl|rfl⟩
 ·exact ⟨rfl,Below.refl _ _⟩
 ·exact ⟨rfl,by rw [XcK];exact Ext.ext _ _ _⟩
def XbA (a:Int):UInt8:=if a=106 then 78 else if a=119 then 75 else if a=100 then 68 else if a=97 then 84 else if a=99 then 67 else if a=108 then 76 else 77
theorem XtS (be:Nat) (e:EF) (a:Int) (t:Tok) (hlen:t.text.length≤70000) (hk:¬t.kind=2) (ha:a=106∨a=119∨a=100∨a=97∨a=99∨a=108∨a=110):Xa8 Tryz.prog 53 [.box be e.cells] [.x (.pointer (some ⟨be,0,none⟩)),.x (.int .i32 a),t.av] (fun r H'=>∃e':EF,r=.x (.bool (XbD (XbA a) t))∧H'=[.box be e'.cells]∧(XbD (XbA a) t=true→e'=Xgj e (XbA a) t)):=by
 have q1:=Xh5 t.text (by omega)
 unfold Tok.av
 have he:e.cells=[.x (.int .i64 e.kind),.x (.string (bs e.job)),.x (.bool e.ok),.x (.int .i64 e.code),.sq e.data.length (u8a e.data),.x (.int .u64 e.time),.x (.int .i64 e.client),.x (.int .i64 e.num)]:=rfl
 rw [he]
 have hb2:(t.kind != 2)=true:=bne_iff_ne.2 hk
 have hb2':(t.kind == 2)=false:=Xvm.2 hk
 refine XaE Tryz.func53 rfl ?_
 simp only [Tryz.ntmps53,Xu8,Xvb,Xvc,Xvd,Xvg,Xvf,Nat.reduceAdd,Nat.reduceSub]
 (repeat' (first|with_reducible (first|refine Xai ?_|refine Xac ?_|refine Xat ?_|refine Xas ?_|refine Xaw ?_|refine Xae ?_|refine Xaa ?_|refine Xay ?_|refine Xaj ?_|refine Xax ?_)|(refine Xal _ rfl (fun h=>?_) (fun h=>?_)<;>first|(exact absurd h (by decide))|((try (simp only [whn] at h));skip))|((apply XhI rfl rfl rfl);(case hT=>((try simp (disch:=omega) only [wtn,hb2,hb2',Xu9,Xu6,Xu7,Xva,Xve,Nat.reduceAdd,Nat.reduceMul,Nat.reduceSub,↓reduceIte,Nat.reduceEqDiff]);rfl)))|((first|apply Xad rfl|apply Xbe _ _ rfl rfl rfl);(case h=>((try (intro (hp:(_:Bool)=true);((try simp only [Bool.and_eq_true,Bool.not_eq_true'] at hp);(try simp only [hp,wte]);(try simp only [whn] at hp))));(first|(apply Xab 0 rfl;(first|exact Xar _ rfl|exact Xap _ rfl))|(apply Xab 1 rfl;(first|exact Xct _ _ _ rfl rfl|exact XbH _ _ _ _ _ rfl rfl rfl rfl|exact XjK _ _ _ _ _ rfl rfl rfl rfl))|(apply Xab 4 rfl;(exact Xbk _ rfl (by first|exact .inl ⟨_,rfl⟩|fail)))|(apply Xab 5 rfl;(exact Xam _ _ _ _ _ _ rfl rfl Xa3.out))|(apply Xab 6 rfl;(exact Xaz _ _ _ _ _ _ _ _ rfl rfl XaU.out XaM.out (by first|exact Xu4 rfl|fail) (by first|exact Xu4 rfl|fail)))|(apply Xab 12 rfl;(exact Xdp _ _ 5 _ _ rfl (by kernel_rfl) (by kernel_rfl) (by kernel_rfl) (by kernel_rfl) rfl (by omega)))|(apply XaD;(case hs=>(intro _ _ h;cases h));(case hx=>rfl);(case hrun=>(intro w;simp [wtb,AV.val,go_sem];skip;rfl))))));(case hT=>((try simp (disch:=omega) only [wtn,hb2,hb2',Xu9,Xu6,Xu7,Xva,Xve,Nat.reduceAdd,Nat.reduceMul,Nat.reduceSub,↓reduceIte,Nat.reduceEqDiff]);rfl)))|(refine Xah rfl ?_;((first|(refine Xaq 11 rfl ?_;(refine Xak 90 Tryz.f90 ([]) _ _ _ rfl rfl Tryz.func90 (by decide) rfl (Xu5 _) (VwL.refl _ _) (q1) ?_;rintro _ _ ⟨_,⟨n,ev,rfl,hn1,hn2⟩,rfl,rfl⟩))|(refine Xaq 15 rfl ?_;(refine Xbx _ _ rfl (by first|rfl|fail) (fun b=>?_)))|(refine Xaq 16 rfl ?_;(refine Xau _ _ _ _ _ _ _ rfl rfl XaU.out XaS.out (by first|rfl|fail) (by first|exact Xu4 rfl|fail) ?_)));apply Xag;(case hT=>((try simp (disch:=omega) only [wtn,hb2,hb2',Xu9,Xu6,Xu7,Xva,Xve,Nat.reduceAdd,Nat.reduceMul,Nat.reduceSub,↓reduceIte,Nat.reduceEqDiff]);rfl));(case hH=>((try simp (disch:=omega) only [wtn,hb2,hb2',Xu9,Xu6,Xu7,Xva,Xve,Nat.reduceAdd,Nat.reduceMul,Nat.reduceSub,↓reduceIte,Nat.reduceEqDiff]);rfl))))|fail))
 ·subst h
  refine Xaf _ _ (Xbi rfl (RV.tmp _) (XaH.mk' [_] [_] (Xu5 _) (XaB.refl _ _) (VwL.refl _ _))) ?_
  exact ⟨{ e with job:=t.text },by simp [ev,XbD,XbA];rfl,rfl,fun _=>by simp [Xgj,XbA]⟩
 ·subst h
  refine Xaf _ _ (Xbi rfl (RV.tmp _) (XaH.mk' [_] [_] (Xu5 _) (XaB.refl _ _) (VwL.refl _ _))) ?_
  have hq:(t.text == [111,107])=decide (t.text=wOk):=by by_cases hq:t.text=[111,107]<;>simp [hq,wOk]
  refine ⟨{ e with ok:=decide (t.text=wOk) },?_,by rw [←hq];rfl,fun _=>by simp [Xgj,XbA]⟩
  simp [ev,XbD,XbA,wOk,Xdn]
  by_cases p1:t.kind=1<;>by_cases p2:t.text=[111,107]<;>by_cases p3:t.text=[102,97,105,108,101,100]<;>simp [p1,p2,p3]
 ·subst h
  refine Xaf _ _ (Xbi rfl (RV.tmp _) (XaH.mk' [_] [_] (Xu5 _) (XaB.refl _ _) (VwL.refl _ _))) ?_
  exact ⟨{ e with data:=t.text },by simp [ev,XbD,XbA];rfl,rfl,fun _=>by simp [Xgj,XbA]⟩
 ·refine Xaf _ _ (Xbi rfl (RV.tmp _) (XaH.mk' [_] [_] (Xu5 _) (XaB.refl _ _) (VwL.refl _ _))) ?_
  have hno:XbD (XbA a) t=false:=by
   rcases ha with rfl|rfl|rfl|rfl|rfl|rfl|rfl<;>first|(exfalso;omega)|simp [XbD,XbA,hk]|fail
  rw [hno]
  exact ⟨e,rfl,rfl,fun h=>by cases h⟩
theorem XtT (be:Nat) (e:EF) (a:Int) (t:Tok) (hlen:t.text.length≤70000) (hN:Xs5 t) (h1t:1≤t.text.length) (hk:t.kind=2) (ha:a=106∨a=119∨a=100∨a=97∨a=99∨a=108∨a=110):Xa8 Tryz.prog 53 [.box be e.cells] [.x (.pointer (some ⟨be,0,none⟩)),.x (.int .i32 a),t.av] (fun r H'=>∃e':EF,r=.x (.bool (XbD (XbA a) t))∧H'=[.box be e'.cells]∧(XbD (XbA a) t=true→e'=Xgj e (XbA a) t)):=by
 obtain ⟨n1,n2⟩:=hN hk
 have q1:=Xji t.text n2 h1t n1
 obtain ⟨b1,b2⟩:=Xln hN hk
 unfold Tok.av
 have he:e.cells=[.x (.int .i64 e.kind),.x (.string (bs e.job)),.x (.bool e.ok),.x (.int .i64 e.code),.sq e.data.length (u8a e.data),.x (.int .u64 e.time),.x (.int .i64 e.client),.x (.int .i64 e.num)]:=rfl
 rw [he]
 generalize hnv:XdN t.text=nv at *
 have hnv':=Lib.hid hnv
 have n2':=Lib.hid n2
 clear hnv n2 hN
 have hb2:(t.kind != 2)=false:=by rw [hk];rfl
 refine XaE Tryz.func53 rfl ?_
 simp only [Tryz.ntmps53,Xu8,Xvb,Xvc,Xvd,Xvg,Xvf,Nat.reduceAdd,Nat.reduceSub]
 (repeat' (first|with_reducible (first|refine Xai ?_|refine Xac ?_|refine Xat ?_|refine Xas ?_|refine Xaw ?_|refine Xae ?_|refine Xaa ?_|refine Xay ?_|refine Xaj ?_|refine Xax ?_)|(refine Xal _ rfl (fun h=>?_) (fun h=>?_)<;>first|(exact absurd h (by decide))|((try (simp only [whn] at h));first|(exfalso;omega;done)|skip))|((first|apply Xad rfl|apply Xbe _ _ rfl rfl rfl);(case h=>((try (intro (hp:(_:Bool)=true);((try simp only [Bool.and_eq_true,Bool.not_eq_true'] at hp);(try simp only [hp,wte]);(try simp only [whn] at hp))));(first|(apply Xab 0 rfl;(first|exact Xar _ rfl|exact Xap _ rfl))|(apply Xab 1 rfl;(first|exact XcO _ _ _ rfl rfl|exact XbH _ _ _ _ _ rfl rfl rfl rfl|exact XjK _ _ _ _ _ rfl rfl rfl rfl))|(apply Xab 4 rfl;(exact Xbk _ rfl (by first|exact .inl ⟨_,rfl⟩|fail)))|(apply Xab 5 rfl;(exact Xam _ _ _ _ _ _ rfl rfl Xa3.out))|(apply Xab 6 rfl;(exact Xaz _ _ _ _ _ _ _ _ rfl rfl XaU.out XaM.out (by first|exact Xu4 rfl|fail) (by first|exact Xu4 rfl|fail)))|(apply Xab 12 rfl;(exact Xdp _ _ 5 _ _ rfl (by kernel_rfl) (by kernel_rfl) (by kernel_rfl) (by kernel_rfl) rfl (by omega)))|(apply XaD;(case hs=>(intro _ _ h;cases h));(case hx=>rfl);(case hrun=>(intro w;simp [wtb,AV.val,go_sem];(try go_bits);rfl))))));(case hT=>((try simp (disch:=omega) only [wtn,hb2,Xu9,Xu6,Xu7,Xva,Xve,Nat.reduceAdd,Nat.reduceMul,Nat.reduceSub,↓reduceIte,Nat.reduceEqDiff]);rfl)))|(refine Xah rfl ?_;((first|(refine Xaq 11 rfl ?_;(refine Xak 90 Tryz.f90 ([]) _ _ _ rfl rfl Tryz.func90 (by decide) rfl (Xu5 _) (VwL.refl _ _) (q1) ?_;rintro _ _ ⟨rfl,rfl⟩))|(refine Xaq 15 rfl ?_;(refine Xbx _ _ rfl (by first|rfl|fail) (fun b=>?_)))|(refine Xaq 16 rfl ?_;(refine Xau _ _ _ _ _ _ _ rfl rfl XaU.out XaS.out (by first|rfl|fail) (by first|exact Xu4 rfl|fail) ?_)));apply Xag;(case hT=>((try simp (disch:=omega) only [wtn,hb2,Xu9,Xu6,Xu7,Xva,Xve,Nat.reduceAdd,Nat.reduceMul,Nat.reduceSub,↓reduceIte,Nat.reduceEqDiff]);rfl));(case hH=>((try simp (disch:=omega) only [wtn,hb2,Xu9,Xu6,Xu7,Xva,Xve,Nat.reduceAdd,Nat.reduceMul,Nat.reduceSub,↓reduceIte,Nat.reduceEqDiff]);rfl))))|fail))
 ·subst h
  refine Xaf _ _ (Xbi rfl (RV.tmp _) (XaH.mk' [_] [_] (Xu5 _) (XaB.refl _ _) (VwL.refl _ _))) ?_
  exact ⟨{ e with job:=t.text },by simp [ev,XbD,XbA];rfl,rfl,fun _=>by simp [Xgj,XbA]⟩
 ·subst h
  refine Xaf _ _ (Xbi rfl (RV.tmp _) (XaH.mk' [_] [_] (Xu5 _) (XaB.refl _ _) (VwL.refl _ _))) ?_
  have hq:(t.text == [111,107])=decide (t.text=wOk):=by by_cases hq:t.text=[111,107]<;>simp [hq,wOk]
  refine ⟨{ e with ok:=decide (t.text=wOk) },?_,by rw [←hq];rfl,fun _=>by simp [Xgj,XbA]⟩
  simp [ev,XbD,XbA,wOk,Xdn]
  by_cases p1:t.kind=1<;>by_cases p2:t.text=[111,107]<;>by_cases p3:t.text=[102,97,105,108,101,100]<;>simp [p1,p2,p3]
 ·subst h
  refine Xaf _ _ (Xbi rfl (RV.tmp _) (XaH.mk' [_] [_] (Xu5 _) (XaB.refl _ _) (VwL.refl _ _))) ?_
  exact ⟨{ e with data:=t.text },by simp [ev,XbD,XbA];rfl,rfl,fun _=>by simp [Xgj,XbA]⟩
 ·subst h
  refine Xaf _ _ (Xbi rfl (RV.tmp _) (XaH.mk' [_] [_] (Xu5 _) (XaB.refl _ _) (VwL.refl _ _))) ?_
  have hnv:=hnv'.out
  exact ⟨{ e with time:=nv },by simp [ev,XbD,XbA,hk],rfl,fun _=>by simp [Xgj,XbA,hk,hnv]⟩
 ·subst h
  refine Xaf _ _ (Xbi rfl (RV.tmp _) (XaH.mk' [_] [_] (Xu5 _) (XaB.refl _ _) (VwL.refl _ _))) ?_
  have hnv:=hnv'.out
  refine ⟨{ e with code:=min nv 999999999 },by simp [ev,XbD,XbA,hk,hnv],?_,fun hh=>?_⟩
  ·rfl
  ·have h9:nv≤999999999:=by simpa [XbD,XbA,hk,hnv] using hh
   simp [Xgj,XbA,hk,hnv];omega
 ·subst h
  refine Xaf _ _ (Xbi rfl (RV.tmp _) (XaH.mk' [_] [_] (Xu5 _) (XaB.refl _ _) (VwL.refl _ _))) ?_
  have hnv:=hnv'.out
  refine ⟨{ e with client:=min nv 999999999 },by simp [ev,XbD,XbA,hk,hnv],?_,fun hh=>?_⟩
  ·rfl
  ·have h9:nv≤999999999:=by simpa [XbD,XbA,hk,hnv] using hh
   simp [Xgj,XbA,hk,hnv];omega
 ·subst h
  refine Xaf _ _ (Xbi rfl (RV.tmp _) (XaH.mk' [_] [_] (Xu5 _) (XaB.refl _ _) (VwL.refl _ _))) ?_
  have hnv:=hnv'.out
  refine ⟨{ e with num:=min nv 999999999 },by simp [ev,XbD,XbA,hk,hnv],?_,fun hh=>?_⟩
  ·rfl
  ·have h9:nv≤999999999:=by simpa [XbD,XbA,hk,hnv] using hh
   simp [Xgj,XbA,hk,hnv];omega
open Go.Shelf
def Xgv:Go.Shelf.Ren:=⟨fun|156=>113|165=>151|166=>33|169=>37|240=>64|241=>177|276=>101|277=>193|n=>n,fun|31=>25|9=>9|3=>3|4=>4|0=>0|20=>20|72=>74|76=>82|70=>72|37=>39|75=>81|127=>133|164=>153|5=>5|80=>87|n=>n,fun|n=>n⟩
theorem Xom:Go.Proofs.Lays.n156 Tryz.prog Xgv:={
 mixed:=by kernel_rfl
 f156:=Tryz.func113.trans (congrArg some (by kernel_rfl))
 f165:=Tryz.func151.trans (congrArg some (by kernel_rfl))
 f166:=Tryz.func33.trans (congrArg some (by kernel_rfl))
 f169:=Tryz.func37.trans (congrArg some (by kernel_rfl))
 f240:=Tryz.func64.trans (congrArg some (by kernel_rfl))
 f241:=Tryz.func177.trans (congrArg some (by kernel_rfl))
 f276:=Tryz.func101.trans (congrArg some (by kernel_rfl))
 f277:=Tryz.func193.trans (congrArg some (by kernel_rfl))
 t0:=Tryz.underlying0
 a0:=Tryz.isAgg0
 z0:=Tryz.sizeOf0
 v0:=Tryz.zeroValue0
 t3:=Tryz.underlying3
 a3:=Tryz.isAgg3
 z3:=Tryz.sizeOf3
 v3:=Tryz.zeroValue3
 t4:=Tryz.underlying4
 a4:=Tryz.isAgg4
 z4:=Tryz.sizeOf4
 v4:=Tryz.zeroValue4
 t9:=Tryz.underlying9
 a9:=Tryz.isAgg9
 z9:=Tryz.sizeOf9
 v9:=Tryz.zeroValue9
 t20:=Tryz.underlying20
 a20:=Tryz.isAgg20
 z20:=Tryz.sizeOf20
 v20:=Tryz.zeroValue20
 t31:=Tryz.underlying25
 a31:=Tryz.isAgg25
 z31:=Tryz.sizeOf25
 v31:=Tryz.zeroValue25
 t37:=Tryz.underlying39
 a37:=Tryz.isAgg39
 z37:=Tryz.sizeOf39
 v37:=Tryz.zeroValue39
 t70:=Tryz.underlying72
 a70:=Tryz.isAgg72
 z70:=Tryz.sizeOf72
 v70:=Tryz.zeroValue72
 t72:=Tryz.underlying74
 a72:=Tryz.isAgg74
 z72:=Tryz.sizeOf74
 v72:=Tryz.zeroValue74
 t75:=Tryz.underlying81
 a75:=Tryz.isAgg81
 z75:=Tryz.sizeOf81
 v75:=Tryz.zeroValue81
 t76:=Tryz.underlying82
 a76:=Tryz.isAgg82
 z76:=Tryz.sizeOf82
 v76:=Tryz.zeroValue82
 t127:=Tryz.underlying133
 a127:=Tryz.isAgg133
 z127:=Tryz.sizeOf133
 v127:=Tryz.zeroValue133
 t164:=Tryz.underlying153
 a164:=Tryz.isAgg153
 z164:=Tryz.sizeOf153
 v164:=Tryz.zeroValue153 }
theorem Xdo:Builder.Extra Tryz.prog Xgv:={
 sizeBuilder:=by kernel_rfl
 liesBuilder:=by kernel_rfl
 t5:=Tryz.underlying5
 a5:=Tryz.isAgg5
 z5:=Tryz.sizeOf5
 v5:=Tryz.zeroValue5
 infoByte:=by kernel_rfl
 cellsByte:=by kernel_rfl
 sizeByte:=by kernel_rfl
 neB5:=by decide }
open Go.RowKit in
theorem strings_Join_none (a:Option Addr) (c:Nat) (sep:ByteArray) (w:World) :
  Calls Tryz.prog 113 #[.slice a 0 c,.string sep] w fun e w'=>e=.returned (.string ⟨#[]⟩)∧w'=w:=Any.strings_Join_none Xom Xdo a c sep w
open Go.RowKit in
theorem strings_Join (bk o c:Nat) (xs:List ByteArray) (sep:ByteArray) (w:World) (hcells:∀(j:Nat) x,xs[j]?=some x→w.cell? ⟨bk,o+j,none⟩=some (.string x)) (hbk:bk < w.heap.size) (hN:xs.length≤140737488355328) (hcap:xs.length≤c) (hlen:(Lib.join (xs.map (·.data.toList)) sep.data.toList).length≤140737488355328) :
  Calls Tryz.prog 113 #[.slice (some ⟨bk,o,none⟩) xs.length c,.string sep] w fun e w'=>e=.returned (.string ⟨(Lib.join (xs.map (·.data.toList)) sep.data.toList).toArray⟩)∧Below w.heap.size w w':=Any.strings_Join Xom Xdo bk o c xs sep w hcells hbk hN hcap hlen
def Xkt:Go.Shelf.Ren:=⟨fun|283=>136|n=>n,fun|3=>3|9=>9|4=>4|n=>n,fun|n=>n⟩
theorem Xr9:Go.Proofs.Lays.n283 Tryz.prog Xkt:={
 mixed:=by kernel_rfl
 f283:=Tryz.func136.trans (congrArg some (by kernel_rfl))
 t3:=Tryz.underlying3
 a3:=Tryz.isAgg3
 z3:=Tryz.sizeOf3
 v3:=Tryz.zeroValue3
 t4:=Tryz.underlying4
 a4:=Tryz.isAgg4
 z4:=Tryz.sizeOf4
 v4:=Tryz.zeroValue4
 t9:=Tryz.underlying9
 a9:=Tryz.isAgg9
 z9:=Tryz.sizeOf9
 v9:=Tryz.zeroValue9 }
open Go.Lib in
theorem internal_strconv_small (i:Nat) (h:i < 100) (w:World) :
  Calls Tryz.prog 136 #[.int .i64 i] w fun e w'=>e=.returned (.string ⟨(Lib.decDigits i).toArray⟩)∧w'=w:=Any.internal_strconv_small Xr9 i h w
def Xi6:Go.Shelf.Ren:=⟨fun|284=>137|129=>170|317=>169|318=>171|n=>n,fun|53=>38|3=>3|212=>236|0=>0|4=>4|46=>178|5=>5|9=>9|n=>n,fun|17=>3|n=>n⟩
theorem Xqa:Go.Proofs.LaysM.n284 Tryz.prog Xi6:={
 mixed:=by kernel_rfl
 f129:=Tryz.func170.trans (congrArg some (by kernel_rfl))
 f284:=Tryz.func137.trans (congrArg some (by kernel_rfl))
 f317:=Tryz.func169.trans (congrArg some (by kernel_rfl))
 f318:=Tryz.func171.trans (congrArg some (by kernel_rfl))
 t0:=Tryz.underlying0
 a0:=Tryz.isAgg0
 z0:=Tryz.sizeOf0
 v0:=Tryz.zeroValue0
 t3:=Tryz.underlying3
 a3:=Tryz.isAgg3
 z3:=Tryz.sizeOf3
 v3:=Tryz.zeroValue3
 t4:=Tryz.underlying4
 a4:=Tryz.isAgg4
 z4:=Tryz.sizeOf4
 v4:=Tryz.zeroValue4
 t5:=Tryz.underlying5
 a5:=Tryz.isAgg5
 z5:=Tryz.sizeOf5
 v5:=Tryz.zeroValue5
 t9:=Tryz.underlying9
 a9:=Tryz.isAgg9
 z9:=Tryz.sizeOf9
 v9:=Tryz.zeroValue9
 t46:=Tryz.underlying178
 a46:=Tryz.isAgg178
 z46:=Tryz.sizeOf178
 v46:=Tryz.zeroValue178
 t53:=Tryz.underlying38
 a53:=Tryz.isAgg38
 z53:=Tryz.sizeOf38
 v53:=Tryz.zeroValue38
 t212:=Tryz.underlying236
 a212:=Tryz.isAgg236
 z212:=Tryz.sizeOf236
 v212:=Tryz.zeroValue236
 g17:=by kernel_rfl
 i0:=by kernel_rfl
 i3:=by kernel_rfl
 i4:=by kernel_rfl
 i5:=by kernel_rfl
 i9:=by kernel_rfl
 i46:=by kernel_rfl
 i53:=by kernel_rfl
 i212:=by kernel_rfl
 m17:=by kernel_rfl }
open Go.Lib in
theorem internal_strconv_numDigits (u:Nat) (h1:1≤u) (h2:u < 18446744073709551616) (w:World) (htab:Lib.TabIs Tryz.prog w "internal/strconv.uint64pow10" .u64 Lib.pow10Tab) :
  Calls Tryz.prog 137 #[.int .u64 u] w fun e w'=>e=.returned (.int .i64 (Lib.nDigits u))∧w'=w:=Any.internal_strconv_numDigits Xqa u h1 h2 w htab
def Xku:Go.Shelf.Ren:=⟨fun|285=>138|n=>n,fun|37=>39|53=>38|3=>3|4=>4|51=>237|9=>9|5=>5|0=>0|n=>n,fun|n=>n⟩
theorem Xsa:Go.Proofs.Lays.n285 Tryz.prog Xku:={
 mixed:=by kernel_rfl
 f285:=Tryz.func138.trans (congrArg some (by kernel_rfl))
 t0:=Tryz.underlying0
 a0:=Tryz.isAgg0
 z0:=Tryz.sizeOf0
 v0:=Tryz.zeroValue0
 t3:=Tryz.underlying3
 a3:=Tryz.isAgg3
 z3:=Tryz.sizeOf3
 v3:=Tryz.zeroValue3
 t4:=Tryz.underlying4
 a4:=Tryz.isAgg4
 z4:=Tryz.sizeOf4
 v4:=Tryz.zeroValue4
 t5:=Tryz.underlying5
 a5:=Tryz.isAgg5
 z5:=Tryz.sizeOf5
 v5:=Tryz.zeroValue5
 t9:=Tryz.underlying9
 a9:=Tryz.isAgg9
 z9:=Tryz.sizeOf9
 v9:=Tryz.zeroValue9
 t37:=Tryz.underlying39
 a37:=Tryz.isAgg39
 z37:=Tryz.sizeOf39
 v37:=Tryz.zeroValue39
 t51:=Tryz.underlying237
 a51:=Tryz.isAgg237
 z51:=Tryz.sizeOf237
 v51:=Tryz.zeroValue237
 t53:=Tryz.underlying38
 a53:=Tryz.isAgg38
 z53:=Tryz.sizeOf38
 v53:=Tryz.zeroValue38 }
open Go.RowKit Go.Sort Go.Lib in
theorem internal_strconv_formatBase10 (blk off cap:Nat) (u:Nat) (d:Array UInt8) (w:World) (hH:Holds (fun (b:UInt8)=>Value.int .u8 (b.toNat:Int)) w blk off d) (hu:u < 10 ^ d.size) (hu64:u < 18446744073709551616) (hsz:d.size < 4611686018427387904) :
  Calls Tryz.prog 138 #[.slice (some ⟨blk,off,none⟩) d.size cap,.int .u64 u] w fun e w'=>
   e=.returned (.tuple #[])∧∃(n v':Nat) (dk:Array UInt8),w'=(putRow (fun (b:UInt8)=>Value.int .u8 (b.toNat:Int)) w blk off dk).drewN n∧FmtInv d.size u 0 v' dk:=Any.internal_strconv_formatBase10 Xsa blk off cap u d w hH hu hu64 hsz
def Xi5:Go.Shelf.Ren:=⟨fun|171=>65|243=>102|246=>135|283=>136|284=>137|285=>138|286=>139|129=>170|317=>169|318=>171|319=>172|320=>173|337=>190|338=>191|n=>n,fun|3=>3|9=>9|2=>2|4=>4|171=>214|0=>0|53=>38|37=>39|5=>5|173=>217|212=>236|51=>237|20=>20|213=>238|46=>178|232=>263|233=>264|n=>n,fun|17=>3|18=>6|19=>7|n=>n⟩
theorem Xp9:Go.Proofs.LaysM.n171 Tryz.prog Xi5:={
 mixed:=by kernel_rfl
 f129:=Tryz.func170.trans (congrArg some (by kernel_rfl))
 f171:=Tryz.func65.trans (congrArg some (by kernel_rfl))
 f243:=Tryz.func102.trans (congrArg some (by kernel_rfl))
 f246:=Tryz.func135.trans (congrArg some (by kernel_rfl))
 f283:=Tryz.func136.trans (congrArg some (by kernel_rfl))
 f284:=Tryz.func137.trans (congrArg some (by kernel_rfl))
 f285:=Tryz.func138.trans (congrArg some (by kernel_rfl))
 f286:=Tryz.func139.trans (congrArg some (by kernel_rfl))
 f317:=Tryz.func169.trans (congrArg some (by kernel_rfl))
 f318:=Tryz.func171.trans (congrArg some (by kernel_rfl))
 f319:=Tryz.func172.trans (congrArg some (by kernel_rfl))
 f320:=Tryz.func173.trans (congrArg some (by kernel_rfl))
 f337:=Tryz.func190.trans (congrArg some (by kernel_rfl))
 f338:=Tryz.func191.trans (congrArg some (by kernel_rfl))
 t0:=Tryz.underlying0
 a0:=Tryz.isAgg0
 z0:=Tryz.sizeOf0
 v0:=Tryz.zeroValue0
 t2:=Tryz.underlying2
 a2:=Tryz.isAgg2
 z2:=Tryz.sizeOf2
 v2:=Tryz.zeroValue2
 t3:=Tryz.underlying3
 a3:=Tryz.isAgg3
 z3:=Tryz.sizeOf3
 v3:=Tryz.zeroValue3
 t4:=Tryz.underlying4
 a4:=Tryz.isAgg4
 z4:=Tryz.sizeOf4
 v4:=Tryz.zeroValue4
 t5:=Tryz.underlying5
 a5:=Tryz.isAgg5
 z5:=Tryz.sizeOf5
 v5:=Tryz.zeroValue5
 t9:=Tryz.underlying9
 a9:=Tryz.isAgg9
 z9:=Tryz.sizeOf9
 v9:=Tryz.zeroValue9
 t20:=Tryz.underlying20
 a20:=Tryz.isAgg20
 z20:=Tryz.sizeOf20
 v20:=Tryz.zeroValue20
 t37:=Tryz.underlying39
 a37:=Tryz.isAgg39
 z37:=Tryz.sizeOf39
 v37:=Tryz.zeroValue39
 t46:=Tryz.underlying178
 a46:=Tryz.isAgg178
 z46:=Tryz.sizeOf178
 v46:=Tryz.zeroValue178
 t51:=Tryz.underlying237
 a51:=Tryz.isAgg237
 z51:=Tryz.sizeOf237
 v51:=Tryz.zeroValue237
 t53:=Tryz.underlying38
 a53:=Tryz.isAgg38
 z53:=Tryz.sizeOf38
 v53:=Tryz.zeroValue38
 t171:=Tryz.underlying214
 a171:=Tryz.isAgg214
 z171:=Tryz.sizeOf214
 v171:=Tryz.zeroValue214
 t173:=Tryz.underlying217
 a173:=Tryz.isAgg217
 z173:=Tryz.sizeOf217
 v173:=Tryz.zeroValue217
 t212:=Tryz.underlying236
 a212:=Tryz.isAgg236
 z212:=Tryz.sizeOf236
 v212:=Tryz.zeroValue236
 t213:=Tryz.underlying238
 a213:=Tryz.isAgg238
 z213:=Tryz.sizeOf238
 t232:=Tryz.underlying263
 a232:=Tryz.isAgg263
 z232:=Tryz.sizeOf263
 v232:=Tryz.zeroValue263
 t233:=Tryz.underlying264
 a233:=Tryz.isAgg264
 z233:=Tryz.sizeOf264
 v233:=Tryz.zeroValue264
 g17:=by kernel_rfl
 g18:=by kernel_rfl
 g19:=by kernel_rfl
 i0:=by kernel_rfl
 i2:=by kernel_rfl
 i3:=by kernel_rfl
 i4:=by kernel_rfl
 i5:=by kernel_rfl
 i9:=by kernel_rfl
 i20:=by kernel_rfl
 i37:=by kernel_rfl
 i46:=by kernel_rfl
 i51:=by kernel_rfl
 i53:=by kernel_rfl
 i171:=by kernel_rfl
 i173:=by kernel_rfl
 i212:=by kernel_rfl
 i232:=by kernel_rfl
 i233:=by kernel_rfl
 m17:=by kernel_rfl
 m18:=by kernel_rfl
 m19:=by kernel_rfl }
open Go.RowKit Go.Sort Go.Lib in
theorem strconv_Itoa (n:Int) (h0 : -9223372036854775808≤n) (h1:n≤9223372036854775807) (w:World) (htab:Lib.TabIs Tryz.prog w "internal/strconv.uint64pow10" .u64 Lib.pow10Tab) :
  Calls Tryz.prog 65 #[.int .i64 n] w fun e w'=>e=.returned (.string ⟨(Lib.itoa n).toArray⟩)∧∃k os,w'=grow (w.drewN k) os:=Any.strconv_Itoa Xp9 n h0 h1 w htab
def Xkq:Go.Shelf.Ren:=⟨fun|171=>65|243=>102|246=>135|283=>136|284=>137|285=>138|286=>139|129=>170|317=>169|318=>171|319=>172|320=>173|337=>190|338=>191|n=>n,fun|3=>3|9=>9|2=>2|4=>4|171=>214|0=>0|53=>38|37=>39|5=>5|173=>217|212=>236|51=>237|20=>20|213=>238|46=>178|232=>263|233=>264|n=>n,fun|17=>3|18=>6|19=>7|n=>n⟩
theorem Xr7:Go.Proofs.Lays.n171 Tryz.prog Xkq:={
 mixed:=by kernel_rfl
 f129:=Tryz.func170.trans (congrArg some (by kernel_rfl))
 f171:=Tryz.func65.trans (congrArg some (by kernel_rfl))
 f243:=Tryz.func102.trans (congrArg some (by kernel_rfl))
 f246:=Tryz.func135.trans (congrArg some (by kernel_rfl))
 f283:=Tryz.func136.trans (congrArg some (by kernel_rfl))
 f284:=Tryz.func137.trans (congrArg some (by kernel_rfl))
 f285:=Tryz.func138.trans (congrArg some (by kernel_rfl))
 f286:=Tryz.func139.trans (congrArg some (by kernel_rfl))
 f317:=Tryz.func169.trans (congrArg some (by kernel_rfl))
 f318:=Tryz.func171.trans (congrArg some (by kernel_rfl))
 f319:=Tryz.func172.trans (congrArg some (by kernel_rfl))
 f320:=Tryz.func173.trans (congrArg some (by kernel_rfl))
 f337:=Tryz.func190.trans (congrArg some (by kernel_rfl))
 f338:=Tryz.func191.trans (congrArg some (by kernel_rfl))
 t0:=Tryz.underlying0
 a0:=Tryz.isAgg0
 z0:=Tryz.sizeOf0
 v0:=Tryz.zeroValue0
 t2:=Tryz.underlying2
 a2:=Tryz.isAgg2
 z2:=Tryz.sizeOf2
 v2:=Tryz.zeroValue2
 t3:=Tryz.underlying3
 a3:=Tryz.isAgg3
 z3:=Tryz.sizeOf3
 v3:=Tryz.zeroValue3
 t4:=Tryz.underlying4
 a4:=Tryz.isAgg4
 z4:=Tryz.sizeOf4
 v4:=Tryz.zeroValue4
 t5:=Tryz.underlying5
 a5:=Tryz.isAgg5
 z5:=Tryz.sizeOf5
 v5:=Tryz.zeroValue5
 t9:=Tryz.underlying9
 a9:=Tryz.isAgg9
 z9:=Tryz.sizeOf9
 v9:=Tryz.zeroValue9
 t20:=Tryz.underlying20
 a20:=Tryz.isAgg20
 z20:=Tryz.sizeOf20
 v20:=Tryz.zeroValue20
 t37:=Tryz.underlying39
 a37:=Tryz.isAgg39
 z37:=Tryz.sizeOf39
 v37:=Tryz.zeroValue39
 t46:=Tryz.underlying178
 a46:=Tryz.isAgg178
 z46:=Tryz.sizeOf178
 v46:=Tryz.zeroValue178
 t51:=Tryz.underlying237
 a51:=Tryz.isAgg237
 z51:=Tryz.sizeOf237
 v51:=Tryz.zeroValue237
 t53:=Tryz.underlying38
 a53:=Tryz.isAgg38
 z53:=Tryz.sizeOf38
 v53:=Tryz.zeroValue38
 t171:=Tryz.underlying214
 a171:=Tryz.isAgg214
 z171:=Tryz.sizeOf214
 v171:=Tryz.zeroValue214
 t173:=Tryz.underlying217
 a173:=Tryz.isAgg217
 z173:=Tryz.sizeOf217
 v173:=Tryz.zeroValue217
 t212:=Tryz.underlying236
 a212:=Tryz.isAgg236
 z212:=Tryz.sizeOf236
 v212:=Tryz.zeroValue236
 t213:=Tryz.underlying238
 a213:=Tryz.isAgg238
 z213:=Tryz.sizeOf238
 t232:=Tryz.underlying263
 a232:=Tryz.isAgg263
 z232:=Tryz.sizeOf263
 v232:=Tryz.zeroValue263
 t233:=Tryz.underlying264
 a233:=Tryz.isAgg264
 z233:=Tryz.sizeOf264
 v233:=Tryz.zeroValue264
 g17:=by kernel_rfl
 g18:=by kernel_rfl
 g19:=by kernel_rfl }
open Go.RowKit Go.Sort Go.Lib in
theorem strconv_Itoa_small (i:Nat) (hi:i < 100) (w:World) :
  Calls Tryz.prog 65 #[.int .i64 i] w fun e w'=>e=.returned (.string ⟨(Lib.decDigits i).toArray⟩)∧w'=w:=Any.strconv_Itoa_small Xr7 i hi w
def Xks:Go.Shelf.Ren:=⟨fun|219=>119|217=>153|225=>154|224=>155|267=>156|266=>181|314=>182|n=>n,fun|9=>9|3=>3|4=>4|5=>5|46=>178|146=>244|51=>237|n=>n,fun|1=>2|n=>n⟩
theorem Xr8:Go.Proofs.Lays.n219 Tryz.prog Xks:={
 mixed:=by kernel_rfl
 f217:=Tryz.func153.trans (congrArg some (by kernel_rfl))
 f219:=Tryz.func119.trans (congrArg some (by kernel_rfl))
 f224:=Tryz.func155.trans (congrArg some (by kernel_rfl))
 f225:=Tryz.func154.trans (congrArg some (by kernel_rfl))
 f266:=Tryz.func181.trans (congrArg some (by kernel_rfl))
 f267:=Tryz.func156.trans (congrArg some (by kernel_rfl))
 f314:=Tryz.func182.trans (congrArg some (by kernel_rfl))
 t3:=Tryz.underlying3
 a3:=Tryz.isAgg3
 z3:=Tryz.sizeOf3
 v3:=Tryz.zeroValue3
 t4:=Tryz.underlying4
 a4:=Tryz.isAgg4
 z4:=Tryz.sizeOf4
 v4:=Tryz.zeroValue4
 t5:=Tryz.underlying5
 a5:=Tryz.isAgg5
 z5:=Tryz.sizeOf5
 v5:=Tryz.zeroValue5
 t9:=Tryz.underlying9
 a9:=Tryz.isAgg9
 z9:=Tryz.sizeOf9
 v9:=Tryz.zeroValue9
 t46:=Tryz.underlying178
 a46:=Tryz.isAgg178
 z46:=Tryz.sizeOf178
 v46:=Tryz.zeroValue178
 t51:=Tryz.underlying237
 a51:=Tryz.isAgg237
 z51:=Tryz.sizeOf237
 v51:=Tryz.zeroValue237
 t146:=Tryz.underlying244
 a146:=Tryz.isAgg244
 z146:=Tryz.sizeOf244
 v146:=Tryz.zeroValue244
 g1:=by kernel_rfl }
open Go.RowKit Go.Lib in
theorem stringslite_Index_one (s:ByteArray) (c:UInt8) (w:World) :
  Calls Tryz.prog 119 #[.string s,.string ⟨#[c]⟩] w fun e w'=>e=.returned (.int .i64 (Lib.indexByte s.data.toList c))∧w'=w:=Any.stringslite_Index_one Xr8 s c w
end Go.Proofs.YtdpobjakdplljaaGreatDoor
