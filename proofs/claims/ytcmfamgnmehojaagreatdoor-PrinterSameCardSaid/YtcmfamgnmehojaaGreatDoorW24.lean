import Derived.Test.YtcmfamgnmehojaaGreatDoorW23
import Derived.Test.YtcmfamgnmehojaaGreatDoorW0
import Derived.Test.YtcmfamgnmehojaaGreatDoorW6
/- The program's parser: numbers. -/
set_option linter.unusedSimpArgs false
set_option linter.unusedVariables false
set_option maxRecDepth 100000
set_option maxHeartbeats 8000000
namespace Go.Proofs.YtcmfamgnmehojaaGreatDoor
open Go.RowKit
structure XiJ (ts:List Tok):Prop where
 len:ts.length≤1000000
 vt:VT ts
 num:∀t∈ts,t.kind=2→1≤t.text.length∧t.text.length≤18∧XdG t.text
 short:Xnl ts
def XnU (acc:Nat) (l:List UInt8):Nat:=l.foldl (fun n c=>n*10+(c.toNat - 48)) acc
theorem XjW (l:List UInt8) (hd:XdG l):∀acc,(acc+1)*10 ^ l.length≤1000000000000000000→Lib.parseUintM (2 ^ 64 - 1) acc l=.ok (XnU acc l):=by
 induction l with
 | nil=>intro acc _;rfl
 | cons c r ih=>
   intro acc h
   have hc:=hd c (List.mem_cons_self ..)
   have h10:1≤10 ^ r.length:=Nat.pow_pos (by decide)
   rw [Xpq,Nat.pow_succ] at h
   have h2:(acc+1)*10≤1000000000000000000:=by
    calc (acc+1)*10=(acc+1)*(1*10):=by omega
     _≤(acc+1)*(10 ^ r.length*10):=Nat.mul_le_mul_left _ (Nat.mul_le_mul_right _ h10)
     _≤_:=h
   have h3:(acc*10+(c.toNat - 48)+1)*10 ^ r.length≤1000000000000000000:=by
    calc (acc*10+(c.toNat - 48)+1)*10 ^ r.length≤((acc+1)*10)*10 ^ r.length:=Nat.mul_le_mul_right _ (by omega)
     _=(acc+1)*(10 ^ r.length*10):=by rw [Nat.mul_assoc,Nat.mul_comm 10]
     _≤_:=h
   rw [Lib.parseUintM,if_pos hc,if_neg (by omega),if_neg (by omega),ih (fun x hx=>hd x (List.mem_cons_of_mem _ hx)) _ h3]
   rfl
theorem XjP (l:List UInt8) (hd:XdG l):∀acc:Nat,((XnU acc l:Nat):Int)=l.foldl (fun n c=>10*n+((c.toNat:Int) - 48)) (acc:Int):=by
 induction l with
 | nil=>intro acc;rfl
 | cons c r ih=>
   intro acc
   have hc:=hd c (List.mem_cons_self ..)
   have:=ih (fun x hx=>hd x (List.mem_cons_of_mem _ hx)) (acc*10+(c.toNat - 48))
   simp only [XnU,Xpo] at this ⊢
   rw [this]
   congr 1
   omega
theorem XjX (l:List UInt8) (hd:XdG l) (h1:1≤l.length) (h18:l.length≤18):Lib.parseUintB 64 l=.ok (XnU 0 l):=by
 unfold Lib.parseUintB
 rw [if_neg (by intro h;rw [h] at h1;simp at h1)]
 refine XjW l hd 0 ?_
 have:=Nat.pow_le_pow_right (n:=10) (by decide) h18
 simpa using this
theorem Xhe (s:List UInt8) (hd:XdG s) (h1:1≤s.length) (h18:s.length≤18):Xbv Tryz.prog 84 [] [.x (.string (bs s)),.x (.int .i64 10),.x (.int .i64 64)] (fun r H'=>r=.x (.tuple #[.int .u64 (XiM s),.nilIface])∧H'=[]):=by
 have e:XiM s=((XnU 0 s:Nat):Int):=(XjP s hd 0).symm
 rw [e]
 refine XcJ (args:=[.string (bs s),.int .i64 10,.int .i64 64]) (fun w=>(strconv_ParseUint_10_at64_ok (bs s) (by simp [bs,ByteArray.size];omega) _ (by simpa [bs] using XjX s hd h1 h18) w).mono ?_) []
 rintro e w' ⟨rfl,rfl|rfl⟩
 ·exact ⟨rfl,Below.refl _ _⟩
 ·exact ⟨rfl,by rw [Xds];exact Ext.ext _ _ _⟩
theorem Xkp (t:Tok) (hd:XdG t.text) (h1:1≤t.text.length) (h18:t.text.length≤18):Xbv Tryz.prog 64 [] [t.av] (fun r H'=>r=.x (.int .u64 (XiM t.text))∧H'=[]):=by
 have hP:=Xhe t.text hd h1 h18
 unfold Tok.av
 have hd':=Lib.hid hd
 clear hd
 refine XaP Tryz.func64 rfl ?_
 simp only [Tryz.ntmps64,Xpq,Xpt,Xpu,Xpv,Xpy,Xpx,Nat.reduceAdd,Nat.reduceSub]
 (repeat' (first|with_reducible (first|refine Xaj ?_|refine Xac ?_|refine Xaw ?_|refine Xaz ?_|refine Xaf ?_|refine Xaa ?_)|(refine Xal _ rfl (fun h=>?_) (fun h=>?_)<;>first|(exact absurd h (by decide))|((try (simp only [whn] at h));skip))|((apply Xad rfl);(case h=>((try (intro (hp:(_:Bool)=true);((try simp only [Bool.and_eq_true,Bool.not_eq_true',Bool.not_eq_true] at hp);(try simp only [hp,wte]);(try simp only [whn] at hp))));(first|(apply Xab 0 rfl;(first|exact Xar _ rfl|exact Xav _ rfl))|(apply Xab 5 rfl;(exact Xag _ _ _ _ _ _ rfl rfl Xbb.out))|(apply Xab 6 rfl;(exact Xay _ _ _ _ _ _ _ _ rfl rfl Xa0.out XaT.out (by first|exact Xpm rfl|fail) (by first|exact Xpm rfl|fail)))|(apply Xab 11 rfl;(exact XaE 84 Tryz.f84 _ _ rfl rfl Tryz.func84 (by decide) rfl (VwL.refl _ _) (hP)))|(apply XaJ;(case hs=>(intro _ _ h;cases h));(case hx=>rfl);(case hrun=>(intro w;simp [wtb,AV.val,go_sem];(try go_bits);rfl))))));(case hT=>((try simp only [wtn,Xpr,Xpo,Xpp,Xps,Xpw,Nat.reduceAdd,Nat.reduceMul,Nat.reduceSub,↓reduceIte,Nat.reduceEqDiff]);rfl)))|(refine Xak rfl ?_;((refine Xap 15 rfl ?_;(refine XbB _ _ rfl (by first|rfl|fail) (fun b=>?_)));apply Xai;(case hT=>((try simp only [wtn,Xpr,Xpo,Xpp,Xps,Xpw,Nat.reduceAdd,Nat.reduceMul,Nat.reduceSub,↓reduceIte,Nat.reduceEqDiff]);rfl));(case hH=>((try simp only [wtn,Xpr,Xpo,Xpp,Xps,Xpw,Nat.reduceAdd,Nat.reduceMul,Nat.reduceSub,↓reduceIte,Nat.reduceEqDiff]);rfl))))|fail))
 refine Xan _ _ (Xb2 rfl (RV.tmp _) (XaK.mk' [_] [] (Xpn _) (XaI.refl _ _) (by first|exact VwL.refl _ _|fail))) ?_
 exact ⟨rfl,rfl⟩
theorem Xgd (ts:List Tok) (k:Nat) (hk:k < ts.length) (hS:ts[k].text.length≤8192):Xdk ts k=(XcG ts k 2).map fun t=>XiM t.text:=by
 unfold Xdk
 rw [XdN]
 cases h:XcG ts k 2 with
 | error f=>rfl
 | ok t=>
   have e:t=ts[k]:=by
    unfold XcG at h
    rw [Xba hk] at h
    split at h
    ·cases h;rfl
    ·cases h
   simp only [bind,Except.bind]
   rw [if_neg (by rw [e];omega)]
theorem XdQ (pb:Nat) (ts:List Tok) (k:Nat) (hk:k < ts.length) (hT:XiJ ts):Xcp Tryz.prog 63 [.box pb (tc ts k)] [.x (.pointer (some ⟨pb,0,none⟩))] (fun r H'=>∃n,r=.x (.int .u64 n)∧H'=[.box pb (tc ts (k+1))]∧Xdk ts k=.ok n∧ts[k].kind=2) (fun v _=>∃f,Xdk ts k=.error f∧v=fv f):=by
 have hTk:=Xeg pb ts k 2 hk hT.len
 rw [Xgd ts k hk (hT.short ts[k] (List.getElem_mem hk))]
 have hV:ts[k].kind=2→Xbv Tryz.prog 64 [] [ts[k].av] (fun r H'=>r=.x (.int .u64 (XiM ts[k].text))∧H'=[]):=fun h=>by
  obtain ⟨h1,h2,h3⟩:=hT.num ts[k] (List.getElem_mem hk) h
  exact Xkp _ h3 h1 h2
 unfold Tok.av at hTk hV
 have hV':=Lib.hid hV
 clear hV
 refine XbR Tryz.func63 rfl ?_
 simp only [Tryz.ntmps63,Xpq,Xpt,Xpu,Xpv,Xpy,Xpx,Nat.reduceAdd,Nat.reduceSub]
 (repeat' (first|with_reducible (first|refine Xaj ?_|refine Xac ?_|refine Xaw ?_|refine Xaf ?_|refine Xaa ?_|refine Xam ?_)|((apply Xad rfl);(case h=>((try (intro (hp:(_:Bool)=true);((try simp only [Bool.and_eq_true,Bool.not_eq_true',Bool.not_eq_true] at hp);(try simp only [hp,wte]);(try simp only [whn] at hp))));(first|(apply Xab 0 rfl;(first|exact Xar _ rfl|exact Xav _ rfl))|(apply Xab 11 rfl;(exact XaE 64 Tryz.f64 _ _ rfl rfl Tryz.func64 (by decide) rfl (VwL.refl _ _) (hV'.out hk1))))));(case hT=>((try simp (disch:=omega) only [wtn,tc,Xpr,Xpo,Xpp,Xps,Xpw,Nat.reduceAdd,Nat.reduceMul,Nat.reduceSub,↓reduceIte,Nat.reduceEqDiff]);rfl)))|(refine XaM rfl ?_;refine XaG 33 Tryz.f33 [_] _ _ _ _ rfl rfl Tryz.func33 (by decide) rfl (Xpn _) (VwL.refl _ _) (hTk) ?_ ?_;(case' refine_1=>(rintro _ _ ⟨rfl,rfl,hp,hk1⟩;(apply Xai;(case hT=>((try simp (disch:=omega) only [wtn,tc,Xpr,Xpo,Xpp,Xps,Xpw,Nat.reduceAdd,Nat.reduceMul,Nat.reduceSub,↓reduceIte,Nat.reduceEqDiff]);rfl));(case hH=>((try simp (disch:=omega) only [wtn,tc,Xpr,Xpo,Xpp,Xps,Xpw,Nat.reduceAdd,Nat.reduceMul,Nat.reduceSub,↓reduceIte,Nat.reduceEqDiff]);rfl)))));(case' refine_2=>(rintro _ _ ⟨f,hp,rfl⟩)))|fail))
 ·(repeat (with_reducible first|refine Xam ?_|fail));refine XaB _ _ (XaK.mk' [] _ (Xpn _) (XaI.refl _ _) VwL.nil) ?_
  exact ⟨f,by rw [hp];rfl,rfl⟩
 ·exact Xcy _ _ (Xb2 rfl (RV.tmp _) (XaK.mk' [] [.box pb (tc ts (k+1))] (Xpn _) (XaI.refl _ _) (VwL.refl _ _))) ⟨_,rfl,rfl,by rw [hp];rfl,hk1⟩
theorem Xlo (l:List (List UInt8)) (s:List UInt8) (hl:l.length≤1000000):Xbv Tryz.prog 56 [] [.sq l.length (sa l),.x (.string (bs s))] (fun r H'=>∃i:Int,r=.x (.int .i64 i)∧H'=[]∧(0≤i↔s∈l)):=by
 refine XaP Tryz.func56 rfl ?_
 simp only [Tryz.ntmps56,Xpq,Xpt,Xpu,Xpv,Xpy,Xpx,Nat.reduceAdd,Nat.reduceSub]
 (repeat' (first|with_reducible (first|refine Xaj ?_|refine Xac ?_|refine Xas ?_|refine Xaf ?_|refine Xaa ?_)|((apply Xad rfl);(case h=>((try (intro (hp:(_:Bool)=true);((try simp only [Bool.and_eq_true,Bool.not_eq_true',Bool.not_eq_true] at hp);(try simp only [hp,wte]);(try simp only [whn] at hp))));(first|(apply Xab 0 rfl;(first|exact Xar _ rfl|exact Xav _ rfl))|(apply Xab 3 rfl;(exact Xbh _ _ _ _ _ _ HEl.out rfl rfl)))));(case hT=>((try simp only [wtn,Xpr,Xpo,Xpp,Xps,Xpw,Nat.reduceAdd,Nat.reduceMul,Nat.reduceSub,↓reduceIte,Nat.reduceEqDiff]);rfl)))|fail))
 refine Xbn (S:=Nat) (fun k=>frm 19 [(0,.sq l.length (sa l)),(1,.x (.string (bs s))),(7,.x (.int .i64 l.length)),(8,.x (.int .i64 k))]) (fun _=>[]) (fun k=>k≤l.length∧s ∉ l.take k) (fun k=>l.length - k) 0 (XaK.mk' [] _ (Xpn _) (XaI.refl _ _) (by (repeat' (first|exact VwL.nil|(refine VwL.cons ?_ ?_)|exact Vw.refl _|exact Vw.top _|fail)))) ⟨Nat.zero_le _,by simp⟩ fun k hk=>?_
 simp only [frm,Xpu,Xpv,Xpo,Xpp,XpB,XpC]
 obtain ⟨hk,hn⟩:=hk
 have hn':=Lib.hid hn
 clear hn
 (repeat' (first|with_reducible (first|refine Xaj ?_|refine Xac ?_|refine Xas ?_|refine Xaw ?_|refine Xaz ?_|refine Xa4 ?_|refine Xaf ?_|refine Xaa ?_|refine XaO ?_|refine XaA ?_|refine XaH ?_|refine Xah ?_|refine Xau ?_)|(refine Xal _ rfl (fun h=>?_) (fun h=>?_)<;>((try (simp only [whn] at h));skip))|((apply Xad rfl);(case h=>((try (intro (hp:(_:Bool)=true);((try simp only [Bool.and_eq_true,Bool.not_eq_true',Bool.not_eq_true] at hp);(try simp only [hp,wte]);(try simp only [whn] at hp))));(first|(apply Xab 0 rfl;(first|exact Xar _ rfl|exact Xav _ rfl))|(apply Xab 6 rfl;(exact XaC _ _ _ _ _ rfl rfl XaT.out (by first|exact Xpm rfl|fail) (by first|exact Xpm rfl|fail)))|(apply Xab 7 rfl;(exact XaD _ _ _ _ _ _ _ _ _ _ rfl rfl rfl HEl.out rfl (by first|omega|fail) (by simp;first|omega|fail)))|(apply XaJ;(case hs=>(intro _ _ h;cases h));(case hx=>rfl);(case hrun=>(intro w;simp [wtb,AV.val,go_sem];(try go_bits);rfl))))));(case hT=>((try simp (disch:=assumption) only [wtn,XdB,Xpr,Xpo,Xpp,Xps,Xpw,Nat.reduceAdd,Nat.reduceMul,Nat.reduceSub,↓reduceIte,Nat.reduceEqDiff]);rfl)))|fail))
 ·refine Xan _ _ (Xb2 rfl (RV.tmp _) (XaK.mk' [] _ (Xpn _) (XaI.refl _ _) (VwL.refl _ _))) ?_
  exact ⟨k,rfl,rfl,by simp [h]⟩
 ·exact ⟨k+1,by omega,⟨by omega,by rw [Xbg l k (by assumption)];simp only [List.mem_append,List.mem_singleton,not_or];exact ⟨hn'.out,fun e=>h e⟩⟩,(XaK.mk' [] _ (Xpn _) (XaI.refl _ _) (by (repeat' (first|exact VwL.nil|(refine VwL.cons ?_ ?_)|exact Vw.refl _|exact Vw.top _|fail))))⟩
 ·refine Xan _ _ (Xb2 rfl (RV.tmp _) (XaK.mk' [] _ (Xpn _) (XaI.refl _ _) (VwL.refl _ _))) ?_
  have hn:=hn'.out
  rw [List.take_of_length_le (by omega)] at hn
  exact ⟨-1,rfl,rfl,by simp [hn]⟩
theorem XlU (l:List (List UInt8)) (s:List UInt8) (hl:l.length≤1000000):Xbv Tryz.prog 39 [] [.sq l.length (sa l),.x (.string (bs s))] (fun r H'=>r=.x (.bool (decide (s∈l)))∧H'=[]):=by
 refine XaP Tryz.func39 rfl ?_
 simp only [Tryz.ntmps39,Xpq,Xpt,Xpu,Xpv,Xpy,Xpx,Nat.reduceAdd,Nat.reduceSub]
 (repeat' (first|with_reducible (first|refine Xaj ?_|refine Xac ?_|refine Xaw ?_|refine Xaf ?_|refine Xaa ?_)|((apply Xad rfl);(case h=>((try (intro (hp:(_:Bool)=true);((try simp only [Bool.and_eq_true,Bool.not_eq_true',Bool.not_eq_true] at hp);(try simp only [hp,wte]);(try simp only [whn] at hp))));(first|(apply Xab 0 rfl;(first|exact Xar _ rfl|exact Xav _ rfl))|(apply XaJ;(case hs=>(intro _ _ h;cases h));(case hx=>rfl);(case hrun=>(intro w;simp [wtb,AV.val,go_sem];(try go_bits);rfl))))));(case hT=>((try simp only [wtn,Xpr,Xpo,Xpp,Xps,Xpw,Nat.reduceAdd,Nat.reduceMul,Nat.reduceSub,↓reduceIte,Nat.reduceEqDiff]);rfl)))|(refine Xak rfl ?_;((refine Xap 11 rfl ?_;(refine Xax 56 Tryz.f56 ([]) _ _ _ rfl rfl Tryz.func56 (by decide) rfl (Xpn _) (VwL.refl _ _) (Xlo l s hl) ?_;rintro _ _ ⟨i,rfl,rfl,hi⟩));apply Xai;(case hT=>((try simp only [wtn,Xpr,Xpo,Xpp,Xps,Xpw,Nat.reduceAdd,Nat.reduceMul,Nat.reduceSub,↓reduceIte,Nat.reduceEqDiff]);rfl));(case hH=>((try simp only [wtn,Xpr,Xpo,Xpp,Xps,Xpw,Nat.reduceAdd,Nat.reduceMul,Nat.reduceSub,↓reduceIte,Nat.reduceEqDiff]);rfl))))|fail))
 refine Xan _ _ (Xb2 rfl (RV.tmp _) (XaK.mk' [] _ (Xpn _) (XaI.refl _ _) (VwL.refl _ _))) ?_
 exact ⟨by rw [←decide_eq_decide.2 hi];rfl,rfl⟩
def jc (j:JF) (aE:Option Addr) (cE:Nat) (aN:Option Addr) (cN:Nat) (aL:Option Addr) (cL:Nat):List AV:=[.x (.string (bs j.name)),.x (.string (bs j.run)),.x (.slice aE j.env.length cE),.x (.slice aN j.needs.length cN),.x (.bool j.hasr),.x (.string (bs j.ready)),.x (.int .i64 j.restart),.x (.int .u64 j.base),.x (.int .u64 j.cap),.x (.int .u64 j.stable),.x (.int .i64 j.burst),.x (.int .u64 j.window),.x (.slice aL j.ladder.length cL),.x (.int .i64 j.line),.x (.int .i64 j.col)]
theorem Xmn (ts:List Tok) (k:Nat) (out:List (List UInt8)):Xej ts k out=Xdw ts k (decide (16≤out.length)) >>= fun t=>if t.text∈out then .error (flt 5 t) else .ok t.text:=by
 unfold Xej
 cases Xdw ts k (decide (16≤out.length)) with
 | error f=>rfl
 | ok t=>simp only [bind,Except.bind,List.contains_iff_mem]
theorem Xnr (n:Nat):decide ((16:Int)≤(n:Int))=decide (16≤n):=decide_eq_decide.2 (by omega)
theorem XnS (pb jb:Nat) (ts:List Tok) (k:Nat) (j:JF) (aE:Option Addr) (cE:Nat) (aN:Option Addr) (cN:Nat) (aL:Option Addr) (cL:Nat) (hk:k < ts.length) (hT:XiJ ts) (hj:j.needs.length≤1000000) :
  Xcp Tryz.prog 61 [.box pb (tc ts k),.box jb (jc j aE cE aN cN aL cL),.row aN j.needs.length cN 9 1 (sa j.needs)] [.x (.pointer (some ⟨pb,0,none⟩)),.x (.pointer (some ⟨jb,0,none⟩))]
   (fun r H'=>∃x a c,r=.x (.tuple #[])∧H'=[.box pb (tc ts (k+1)),.box jb (jc { j with needs:=j.needs++[x] } aE cE a c aL cL),.row a (j.needs++[x]).length c 9 1 (sa (j.needs++[x]))]∧Xej ts k j.needs=.ok x∧k+1 < ts.length)
   (fun v _=>∃f,Xej ts k j.needs=.error f∧v=fv f):=by
 have hNm:=fun full=>XjM pb ts k full hk hT.len
 have hl:=hT.len
 have hv:=hT.vt k hk
 rw [Xmn,←Xnr]
 unfold Tok.av at hNm
 have hNm':=Lib.hid hNm
 clear hNm
 unfold jc
 refine XbR Tryz.func61 rfl ?_
 simp only [Tryz.ntmps61,Xpq,Xpt,Xpu,Xpv,Xpy,Xpx,Nat.reduceAdd,Nat.reduceSub]
 (repeat' (first|with_reducible (first|refine Xaj ?_|refine Xac ?_|refine Xaf ?_|refine Xaa ?_|refine Xam ?_)|((apply Xad rfl);(case h=>((try (intro (hp:(_:Bool)=true);((try simp only [Bool.and_eq_true,Bool.not_eq_true',Bool.not_eq_true] at hp);(try simp only [hp,wte]);(try simp only [whn] at hp))));(first|(apply Xab 0 rfl;(exact Xar _ rfl))|(apply Xab 4 rfl;(exact XaR _ rfl (by first|exact .inl ⟨_,rfl⟩|fail)))|(apply Xab 5 rfl;(exact Xag _ _ _ _ _ _ rfl rfl Xbb.out))|(apply Xab 6 rfl;(exact Xay _ _ _ _ _ _ _ _ rfl rfl Xa0.out XaT.out (by first|exact Xpm rfl|fail) (by first|exact Xpm rfl|fail)))|(apply XaJ;(case hs=>(intro _ _ h;cases h));(case hx=>rfl);(case hrun=>(intro w;simp [wtb,AV.val,go_sem];(try go_bits);rfl))))));(case hT=>((try simp only [wtn,Xpr,Xpo,Xpp,Xps,Xpw,Nat.reduceAdd,Nat.reduceMul,Nat.reduceSub,↓reduceIte,Nat.reduceEqDiff]);rfl)))|(refine XaM rfl ?_;refine XaG 35 Tryz.f35 [_] _ _ _ _ rfl rfl Tryz.func35 (by decide) rfl (Xpn _) (VwL.refl _ _) (hNm'.out _) ?_ ?_;(case' refine_1=>(rintro _ _ ⟨rfl,rfl,hp,hk1⟩;(apply Xai;(case hT=>((try simp only [wtn,Xpr,Xpo,Xpp,Xps,Xpw,Nat.reduceAdd,Nat.reduceMul,Nat.reduceSub,↓reduceIte,Nat.reduceEqDiff]);rfl));(case hH=>((try simp only [wtn,Xpr,Xpo,Xpp,Xps,Xpw,Nat.reduceAdd,Nat.reduceMul,Nat.reduceSub,↓reduceIte,Nat.reduceEqDiff]);rfl)))));(case' refine_2=>(rintro _ _ ⟨f,hp,rfl⟩)))|(refine Xak rfl ?_;((first|(refine Xap 14 rfl ?_;(refine XaQ _ _ rfl XbK.out rfl (fun b=>?_)))|(refine Xap 16 rfl ?_;(refine Xat _ _ _ _ _ _ _ rfl rfl Xa0.out XaS.out (by first|rfl|fail) (by first|exact Xpm rfl|fail) ?_)));apply Xai;(case hT=>((try simp only [wtn,Xpr,Xpo,Xpp,Xps,Xpw,Nat.reduceAdd,Nat.reduceMul,Nat.reduceSub,↓reduceIte,Nat.reduceEqDiff]);rfl));(case hH=>((try simp only [wtn,Xpr,Xpo,Xpp,Xps,Xpw,Nat.reduceAdd,Nat.reduceMul,Nat.reduceSub,↓reduceIte,Nat.reduceEqDiff]);rfl))))|fail))
 ·(repeat (with_reducible first|refine Xam ?_|fail));refine XaB _ _ (XaK.mk' [] _ (Xpn _) (XaI.refl _ _) VwL.nil) ?_
  exact ⟨f,by rw [hp];rfl,rfl⟩
 have hk2:=hv (by omega)
 refine Xbd mixed ?_ ?_
 ·decide +kernel
 (repeat' (first|with_reducible (first|refine Xac ?_|refine Xaz ?_|refine XbP ?_|refine Xaa ?_|refine Xam ?_)|(refine Xal _ rfl (fun h=>?_) (fun h=>?_)<;>((try (simp only [whn] at h));skip))|((first|apply Xad rfl|apply Xbz rfl);(case h=>((try (intro (hp:(_:Bool)=true);((try simp only [Bool.and_eq_true,Bool.not_eq_true',Bool.not_eq_true] at hp);(try simp only [hp,wte]);(try simp only [whn] at hp))));(first|(apply Xab 0 rfl;(exact Xar _ rfl))|(apply Xab 4 rfl;(exact XaR _ rfl (by first|exact .inl ⟨_,rfl⟩|fail)))|(apply Xab 5 rfl;(exact Xag _ _ _ _ _ _ rfl rfl Xbb.out))|(apply Xab 6 rfl;(exact Xay _ _ _ _ _ _ _ _ rfl rfl Xa0.out XaT.out (by first|exact Xpm rfl|fail) (by first|exact Xpm rfl|fail)))|(apply Xab 11 rfl;(exact Xca 39 Tryz.f39 _ _ rfl rfl Tryz.func39 (by decide) rfl (by (repeat' (first|exact VwL.nil|(refine VwL.cons ?_ ?_)|exact Vw.refl _|exact Vw.row (List.Mem.tail _ (List.Mem.tail _ (List.Mem.tail _ (List.Mem.head _)))) (VwL.refl _ _)|fail));done) (XlU j.needs ts[k].text hj))))));(case hT=>((try simp only [wtn,Xpr,Xpo,Xpp,Xps,Xpw,Nat.reduceAdd,Nat.reduceMul,Nat.reduceSub,↓reduceIte,Nat.reduceEqDiff]);rfl)))|(refine XaM rfl ?_;refine XaG 34 Tryz.f34 [] _ _ _ _ rfl rfl Tryz.func34 (by decide) rfl (Xpn _) (VwL.refl _ _) (Xc1 _ ts[k]) ?_ ?_;(case refine_1=>(rintro _ _ ⟨⟩));(case' refine_2=>(rintro _ _ ⟨rfl,rfl⟩)))|fail))
 ·(repeat (with_reducible first|refine Xam ?_|fail));refine XaB _ _ (XaK.mk' [] _ (Xpn _) (XaI.refl _ _) VwL.nil) ?_
  exact ⟨_,by rw [hp];exact if_pos h,rfl⟩
 refine Xbl mixed [11] [.box b [.x (.int .i64 ts[k].kind),.x (.string (bs ts[k].text)),.x (.int .i64 (ts[k].line:Nat)),.x (.int .i64 (ts[k].col:Nat))],.box jb _] [.box pb _,.row aN _ _ _ _ _] (by (repeat' (first|exact Xpn _|refine XpD _ ?_|refine (XpA (l₁:=[_])).trans (XpD _ ?_)|fail))) ?_
 (first|(apply Xbm 0 rfl rfl (by kernel_rfl) (fun _ _ _ _ hp=>hp);(case h=>(exact Xbc _ rfl)))|fail);(apply Xae;(case hT=>((try simp only [wtn,Xpr,Xpo,Xpp,Xps,Xpw,Nat.reduceAdd,Nat.reduceMul,Nat.reduceSub,↓reduceIte,Nat.reduceEqDiff]);rfl));(case hH=>rfl));(first|(apply Xbm 1 rfl rfl (by kernel_rfl) (fun _ _ _ _ hp=>hp);(case h=>(exact Xbc _ rfl)))|fail);(apply Xae;(case hT=>((try simp only [wtn,Xpr,Xpo,Xpp,Xps,Xpw,Nat.reduceAdd,Nat.reduceMul,Nat.reduceSub,↓reduceIte,Nat.reduceEqDiff]);rfl));(case hH=>rfl));(first|(apply Xbm 2 rfl rfl (by kernel_rfl) (fun _ _ _ _ hp=>hp);(case h=>(exact XbZ _ _ _ rfl rfl)))|fail);(apply Xae;(case hT=>((try simp only [wtn,Xpr,Xpo,Xpp,Xps,Xpw,Nat.reduceAdd,Nat.reduceMul,Nat.reduceSub,↓reduceIte,Nat.reduceEqDiff]);rfl));(case hH=>rfl));(first|(apply Xbm 3 rfl rfl (by kernel_rfl) (fun _ _ _ _ hp=>hp);(case h=>(exact Xa7 _ _ _ _ _ _ rfl rfl Xbb.out)))|fail);(apply Xae;(case hT=>((try simp only [wtn,Xpr,Xpo,Xpp,Xps,Xpw,Nat.reduceAdd,Nat.reduceMul,Nat.reduceSub,↓reduceIte,Nat.reduceEqDiff]);rfl));(case hH=>rfl));(first|refine Xbf 4 rfl rfl (by kernel_rfl) (fun _ _ _ _ hp=>hp) _ _ _ _ _ _ _ _ rfl rfl Xa0.out XaT.out (by first|exact Xpm rfl|fail) (by first|exact Xpm rfl|fail) ?_|fail);(apply Xae;(case hT=>((try simp only [wtn,Xpr,Xpo,Xpp,Xps,Xpw,Nat.reduceAdd,Nat.reduceMul,Nat.reduceSub,↓reduceIte,Nat.reduceEqDiff]);rfl));(case hH=>rfl));(first|(apply Xbm 5 rfl rfl (by kernel_rfl) (fun _ _ _ _ hp=>hp);(case h=>(exact Xa7 _ _ _ _ _ _ rfl rfl Xbb.out)))|fail);(apply Xae;(case hT=>((try simp only [wtn,Xpr,Xpo,Xpp,Xps,Xpw,Nat.reduceAdd,Nat.reduceMul,Nat.reduceSub,↓reduceIte,Nat.reduceEqDiff]);rfl));(case hH=>rfl));(first|refine Xbf 6 rfl rfl (by kernel_rfl) (fun _ _ _ _ hp=>hp) _ _ _ _ _ _ _ _ rfl rfl Xa0.out XaT.out (by first|exact Xpm rfl|fail) (by first|exact Xpm rfl|fail) ?_|fail);(apply Xae;(case hT=>((try simp only [wtn,Xpr,Xpo,Xpp,Xps,Xpw,Nat.reduceAdd,Nat.reduceMul,Nat.reduceSub,↓reduceIte,Nat.reduceEqDiff]);rfl));(case hH=>rfl))
 (refine XaY 7 (by decide +kernel) rfl rfl ?_;(first|((refine Xap 17 rfl ?_;(refine XaF _ _ _ _ _ _ _ _ rfl Xa6.out (by first|rfl|fail) rfl (by decide) rfl (fun b=>?_)));apply Xae;(case hT=>((try simp only [wtn,Xpr,Xpo,Xpp,Xps,Xpw,Nat.reduceAdd,Nat.reduceMul,Nat.reduceSub,↓reduceIte,Nat.reduceEqDiff]);rfl));(case hH=>((try simp only [wtn,Xpr,Xpo,Xpp,Xps,Xpw,Nat.reduceAdd,Nat.reduceMul,Nat.reduceSub,↓reduceIte,Nat.reduceEqDiff]);rfl)))|fail))
 (refine XaY 8 (by decide +kernel) rfl rfl ?_;(first|((refine Xap 13 rfl ?_;(refine XaL _ _ _ _ _ _ _ _ _ _ _ _ _ _ rfl rfl XbA.out (Src.row _ rfl XbA.out) Xa6.out (by first|rfl|fail) (Xdj _ _ (by omega) (by decide)) (fun ad cap=>?_)));apply Xae;(case hT=>((try simp only [wtn,Xpr,Xpo,Xpp,Xps,Xpw,Nat.reduceAdd,Nat.reduceMul,Nat.reduceSub,↓reduceIte,Nat.reduceEqDiff]);rfl));(case hH=>((try simp only [wtn,Xpr,Xpo,Xpp,Xps,Xpw,Nat.reduceAdd,Nat.reduceMul,Nat.reduceSub,↓reduceIte,Nat.reduceEqDiff]);rfl)))|fail))
 (repeat ((first|refine XaY 9 (by decide +kernel) rfl rfl ?_|refine XaY 10 (by decide +kernel) rfl rfl ?_|fail);(first|(apply XaU;(case h=>(first|(apply Xab 4 rfl;(exact XaR _ rfl (by first|exact .inl ⟨_,rfl⟩|fail)))|(apply Xab 5 rfl;(exact Xag _ _ _ _ _ _ rfl rfl Xbb.out))));(apply Xae;(case hT=>((try simp only [wtn,Xpr,Xpo,Xpp,Xps,Xpw,Nat.reduceAdd,Nat.reduceMul,Nat.reduceSub,↓reduceIte,Nat.reduceEqDiff]);rfl));(case hH=>rfl)))|fail)))
 refine Xbu (by decide +kernel) ?_
 refine Xao rfl (by simp only [Xpy,Xpx];rfl) ?_
 (refine Xbw 11 (by decide +kernel) rfl rfl ?_;(first|((refine Xap 16 rfl ?_;(refine Xat _ _ _ _ _ _ _ rfl rfl Xa0.out XaS.out (by first|rfl|fail) (by first|exact Xpm rfl|fail) ?_));apply Xao;(case hT=>((try simp only [wtn,Xpr,Xpo,Xpp,Xps,Xpw,Nat.reduceAdd,Nat.reduceMul,Nat.reduceSub,↓reduceIte,Nat.reduceEqDiff]);rfl));(case hH=>((try simp only [wtn,Xpr,Xpo,Xpp,Xps,Xpw,Nat.reduceAdd,Nat.reduceMul,Nat.reduceSub,↓reduceIte,Nat.reduceEqDiff]);rfl)))|fail))
 refine XaV (by decide +kernel) ?_
 (repeat' (first|with_reducible (refine XbP ?_)|fail))
 refine Xbj _ _ (Xeu rfl (XaK.mk' [.box _ [.x (.int .i64 ts[k].kind),.x (.string (bs ts[k].text)),.x (.int .i64 (ts[k].line:Nat)),.x (.int .i64 (ts[k].col:Nat))],.row (some _) 1 1 _ _ _] [.box pb _,.box jb _,.row ad _ cap _ _ _] (by (repeat' (first|exact Xpn _|refine XpD _ ?_|refine (XpA (l₁:=[_])).trans (XpD _ ?_)|fail))) (XaI.refl _ _) VwL.nil)) ⟨ts[k].text,ad,cap,rfl,?_,by rw [hp];exact if_neg h,hk2⟩
 simp only [Xkc,Xpz,Xpq,Xpt];rfl
def Xn4 (ts:List Tok) (k:Nat) (out:List (Int × Int)) (t:Tok):Except Flt (Int × Int):=if 5≤out.length then .error (flt 1 t) else if Xm0 t.text=0 then .error (flt 4 t) else (Xdk ts (k+1)).map fun n=>(Xm0 t.text,n)
theorem Xmo (ts:List Tok) (k:Nat) (out:List (Int × Int)) (hk:k < ts.length) (hS:ts[k].text.length≤8192):Xd4 ts k out=XcG ts k 1 >>= Xn4 ts k out:=by
 unfold Xd4 Xn4
 rw [XdN]
 cases h:XcG ts k 1 with
 | error f=>rfl
 | ok t=>
   have e:t=ts[k]:=by
    unfold XcG at h
    rw [Xba hk] at h
    split at h
    ·cases h;rfl
    ·cases h
   simp only [bind,Except.bind]
   rw [if_neg (by rw [e];omega)]
   cases Xdk ts (k+1)<;>rfl
theorem Xn5 (pb jb:Nat) (ts:List Tok) (k:Nat) (j:JF) (aE:Option Addr) (cE:Nat) (aN:Option Addr) (cN:Nat) (aL:Option Addr) (cL:Nat) (hk:k < ts.length) (hT:XiJ ts) (hj:j.ladder.length≤1000000) :
  Xcp Tryz.prog 66 [.box pb (tc ts k),.box jb (jc j aE cE aN cN aL cL),.row aL j.ladder.length cL 37 2 (ra j.ladder)] [.x (.pointer (some ⟨pb,0,none⟩)),.x (.pointer (some ⟨jb,0,none⟩))]
   (fun r H'=>∃x a c,r=.x (.tuple #[])∧H'=[.box pb (tc ts (k+2)),.box jb (jc { j with ladder:=j.ladder++[x] } aE cE aN cN a c),.row a (j.ladder++[x]).length c 37 2 (ra (j.ladder++[x]))]∧Xd4 ts k j.ladder=.ok x∧k+2 < ts.length)
   (fun v _=>∃f,Xd4 ts k j.ladder=.error f∧v=fv f):=by
 have hTk:=Xeg pb ts k 1 hk hT.len
 have hl:=hT.len
 have hv:=hT.vt k hk
 have hS:=hT.short ts[k] (List.getElem_mem hk)
 rw [Xmo ts k _ hk hS]
 unfold Tok.av at hTk
 unfold jc
 refine XbR Tryz.func66 rfl ?_
 simp only [Tryz.ntmps66,Xpq,Xpt,Xpu,Xpv,Xpy,Xpx,Nat.reduceAdd,Nat.reduceSub]
 (repeat' (first|with_reducible (first|refine Xaj ?_|refine Xac ?_|refine Xaz ?_|refine Xaf ?_|refine Xaa ?_|refine Xam ?_)|(refine Xal _ rfl (fun h=>?_) (fun h=>?_)<;>((try (simp only [whn] at h));skip))|((apply Xad rfl);(case h=>((try (intro (hp:(_:Bool)=true);((try simp only [Bool.and_eq_true,Bool.not_eq_true',Bool.not_eq_true] at hp);(try simp only [hp,wte]);(try simp only [whn] at hp))));(first|(apply Xab 0 rfl;(first|exact Xar _ rfl|exact Xav _ rfl))|(apply Xab 4 rfl;(exact XaR _ rfl (by first|exact .inl ⟨_,rfl⟩|fail)))|(apply Xab 5 rfl;(exact Xag _ _ _ _ _ _ rfl rfl Xbb.out))|(apply Xab 6 rfl;(exact Xay _ _ _ _ _ _ _ _ rfl rfl Xa0.out XaT.out (by first|exact Xpm rfl|fail) (by first|exact Xpm rfl|fail)))|(apply Xab 11 rfl;(exact XaE 85 Tryz.f85 _ _ rfl rfl Tryz.func85 (by decide) rfl (VwL.refl _ _) (Xjx _)))|(apply XaJ;(case hs=>(intro _ _ h;cases h));(case hx=>rfl);(case hrun=>(intro w;simp [wtb,AV.val,go_sem];(try go_bits);rfl))))));(case hT=>((try simp only [wtn,Xpr,Xpo,Xpp,Xps,Xpw,Nat.reduceAdd,Nat.reduceMul,Nat.reduceSub,↓reduceIte,Nat.reduceEqDiff]);rfl)))|(refine XaM rfl ?_;refine XaG 33 Tryz.f33 [_] _ _ _ _ rfl rfl Tryz.func33 (by decide) rfl (Xpn _) (VwL.refl _ _) (hTk) ?_ ?_;(case' refine_1=>(rintro _ _ ⟨rfl,rfl,hp,hk1⟩;(apply Xai;(case hT=>((try simp only [wtn,Xpr,Xpo,Xpp,Xps,Xpw,Nat.reduceAdd,Nat.reduceMul,Nat.reduceSub,↓reduceIte,Nat.reduceEqDiff]);rfl));(case hH=>((try simp only [wtn,Xpr,Xpo,Xpp,Xps,Xpw,Nat.reduceAdd,Nat.reduceMul,Nat.reduceSub,↓reduceIte,Nat.reduceEqDiff]);rfl)))));(case' refine_2=>(rintro _ _ ⟨f,hp,rfl⟩)))|(refine XaM rfl ?_;refine XaG 34 Tryz.f34 [] _ _ _ _ rfl rfl Tryz.func34 (by decide) rfl (Xpn _) (VwL.refl _ _) (Xc1 _ ts[k]) ?_ ?_;(case refine_1=>(rintro _ _ ⟨⟩));(case' refine_2=>(rintro _ _ ⟨rfl,rfl⟩)))|(refine Xak rfl ?_;((first|(refine Xap 14 rfl ?_;(refine XaQ _ _ rfl XbK.out rfl (fun b=>?_)))|(refine Xap 16 rfl ?_;(refine Xat _ _ _ _ _ _ _ rfl rfl Xa0.out XaS.out (by first|rfl|fail) (by first|exact Xpm rfl|fail) ?_)));apply Xai;(case hT=>((try simp only [wtn,Xpr,Xpo,Xpp,Xps,Xpw,Nat.reduceAdd,Nat.reduceMul,Nat.reduceSub,↓reduceIte,Nat.reduceEqDiff]);rfl));(case hH=>((try simp only [wtn,Xpr,Xpo,Xpp,Xps,Xpw,Nat.reduceAdd,Nat.reduceMul,Nat.reduceSub,↓reduceIte,Nat.reduceEqDiff]);rfl))))|fail))
 ·(repeat (with_reducible first|refine Xam ?_|fail));refine XaB _ _ (XaK.mk' [] _ (Xpn _) (XaI.refl _ _) VwL.nil) ?_
  exact ⟨f,by rw [hp];rfl,rfl⟩
 ·(repeat (with_reducible first|refine Xam ?_|fail));refine XaB _ _ (XaK.mk' [] _ (Xpn _) (XaI.refl _ _) VwL.nil) ?_
  exact ⟨_,by rw [hp];exact if_pos (by omega),rfl⟩
 ·(repeat (with_reducible first|refine Xam ?_|fail));refine XaB _ _ (XaK.mk' [] _ (Xpn _) (XaI.refl _ _) VwL.nil) ?_
  exact ⟨_,by rw [hp];exact (if_neg (by omega)).trans (if_pos h),rfl⟩
 have hk2:=hv (by omega)
 have hN:=XdQ pb ts (k+1) hk2 hT
 have hv2:=hT.vt (k+1) hk2
 refine Xbl mixed [13] [.box b [.x (.int .i64 ts[k].kind),.x (.string (bs ts[k].text)),.x (.int .i64 (ts[k].line:Nat)),.x (.int .i64 (ts[k].col:Nat))],.box jb _] [.box pb _,.row aL _ _ _ _ _] (by (repeat' (first|exact Xpn _|refine XpD _ ?_|refine (XpA (l₁:=[_])).trans (XpD _ ?_)|fail))) ?_
 (first|(apply Xbm 0 rfl rfl (by kernel_rfl) (fun _ _ _ _ hp=>hp);(case h=>(exact Xbc _ rfl)))|fail);(apply Xae;(case hT=>((try simp only [wtn,Xpr,Xpo,Xpp,Xps,Xpw,Nat.reduceAdd,Nat.reduceMul,Nat.reduceSub,↓reduceIte,Nat.reduceEqDiff]);rfl));(case hH=>rfl));(first|(apply Xbm 1 rfl rfl (by kernel_rfl) (fun _ _ _ _ hp=>hp);(case h=>(exact Xbc _ rfl)))|fail);(apply Xae;(case hT=>((try simp only [wtn,Xpr,Xpo,Xpp,Xps,Xpw,Nat.reduceAdd,Nat.reduceMul,Nat.reduceSub,↓reduceIte,Nat.reduceEqDiff]);rfl));(case hH=>rfl));(first|(apply Xbm 2 rfl rfl (by kernel_rfl) (fun _ _ _ _ hp=>hp);(case h=>(exact XbZ _ _ _ rfl rfl)))|fail);(apply Xae;(case hT=>((try simp only [wtn,Xpr,Xpo,Xpp,Xps,Xpw,Nat.reduceAdd,Nat.reduceMul,Nat.reduceSub,↓reduceIte,Nat.reduceEqDiff]);rfl));(case hH=>rfl));(first|(apply Xbm 3 rfl rfl (by kernel_rfl) (fun _ _ _ _ hp=>hp);(case h=>(exact Xa7 _ _ _ _ _ _ rfl rfl Xbb.out)))|fail);(apply Xae;(case hT=>((try simp only [wtn,Xpr,Xpo,Xpp,Xps,Xpw,Nat.reduceAdd,Nat.reduceMul,Nat.reduceSub,↓reduceIte,Nat.reduceEqDiff]);rfl));(case hH=>rfl));(first|refine Xbf 4 rfl rfl (by kernel_rfl) (fun _ _ _ _ hp=>hp) _ _ _ _ _ _ _ _ rfl rfl Xa0.out XaT.out (by first|exact Xpm rfl|fail) (by first|exact Xpm rfl|fail) ?_|fail);(apply Xae;(case hT=>((try simp only [wtn,Xpr,Xpo,Xpp,Xps,Xpw,Nat.reduceAdd,Nat.reduceMul,Nat.reduceSub,↓reduceIte,Nat.reduceEqDiff]);rfl));(case hH=>rfl));(first|(apply Xbm 5 rfl rfl (by kernel_rfl) (fun _ _ _ _ hp=>hp);(case h=>(exact Xbc _ rfl)))|fail);(apply Xae;(case hT=>((try simp only [wtn,Xpr,Xpo,Xpp,Xps,Xpw,Nat.reduceAdd,Nat.reduceMul,Nat.reduceSub,↓reduceIte,Nat.reduceEqDiff]);rfl));(case hH=>rfl));(first|(apply Xbm 6 rfl rfl (by kernel_rfl) (fun _ _ _ _ hp=>hp);(case h=>(exact Xbc _ rfl)))|fail);(apply Xae;(case hT=>((try simp only [wtn,Xpr,Xpo,Xpp,Xps,Xpw,Nat.reduceAdd,Nat.reduceMul,Nat.reduceSub,↓reduceIte,Nat.reduceEqDiff]);rfl));(case hH=>rfl))
 (first|(refine XcE 7 (by decide +kernel) rfl rfl ?_;refine XaG 63 Tryz.f63 [_] _ _ _ _ rfl rfl Tryz.func63 (by decide) rfl (Xpn _) (VwL.refl _ _) (hN) ?_ ?_;(case' refine_1=>(rintro _ _ ⟨n,rfl,rfl,hn,hk3⟩;(apply Xae;(case hT=>((try simp only [wtn,Xpr,Xpo,Xpp,Xps,Xpw,Nat.reduceAdd,Nat.reduceMul,Nat.reduceSub,↓reduceIte,Nat.reduceEqDiff]);rfl));(case hH=>((try simp only [wtn,Xpr,Xpo,Xpp,Xps,Xpw,Nat.reduceAdd,Nat.reduceMul,Nat.reduceSub,↓reduceIte,Nat.reduceEqDiff]);rfl)))));(case' refine_2=>(rintro _ _ ⟨f,hn,rfl⟩)))|fail)
 ·(repeat (with_reducible first|refine Xam ?_|fail));refine XaB _ _ (XaK.mk' [] _ (Xpn _) (XaI.refl _ _) VwL.nil) ?_
  exact ⟨f,by rw [hp];exact (if_neg (by omega)).trans ((if_neg (by assumption)).trans (by rw [hn];rfl)),rfl⟩
 (refine XaY 8 (by decide +kernel) rfl rfl ?_;(first|(apply XaU;(case h=>(apply Xab 10 rfl;(exact XaZ _ _ _ _ _ rfl HPl.out (by first|rfl|fail) rfl)));(apply Xae;(case hT=>((try simp only [wtn,Xpr,Xpo,Xpp,Xps,Xpw,Nat.reduceAdd,Nat.reduceMul,Nat.reduceSub,↓reduceIte,Nat.reduceEqDiff]);rfl));(case hH=>rfl)))|fail))
 (refine XaY 9 (by decide +kernel) rfl rfl ?_;(first|((refine Xap 17 rfl ?_;(refine XaF _ _ _ _ _ _ _ _ rfl Xa6.out (by first|rfl|fail) rfl (by decide) rfl (fun b=>?_)));apply Xae;(case hT=>((try simp only [wtn,Xpr,Xpo,Xpp,Xps,Xpw,Nat.reduceAdd,Nat.reduceMul,Nat.reduceSub,↓reduceIte,Nat.reduceEqDiff]);rfl));(case hH=>((try simp only [wtn,Xpr,Xpo,Xpp,Xps,Xpw,Nat.reduceAdd,Nat.reduceMul,Nat.reduceSub,↓reduceIte,Nat.reduceEqDiff]);rfl)))|fail))
 (refine XaY 10 (by decide +kernel) rfl rfl ?_;(first|((refine Xap 13 rfl ?_;(refine XaL _ _ _ _ _ _ _ _ _ _ _ _ _ _ rfl rfl XbA.out (Src.row _ rfl XbA.out) Xa6.out (by first|rfl|fail) (Xdj _ _ (by omega) (by decide)) (fun ad cap=>?_)));apply Xae;(case hT=>((try simp only [wtn,Xpr,Xpo,Xpp,Xps,Xpw,Nat.reduceAdd,Nat.reduceMul,Nat.reduceSub,↓reduceIte,Nat.reduceEqDiff]);rfl));(case hH=>((try simp only [wtn,Xpr,Xpo,Xpp,Xps,Xpw,Nat.reduceAdd,Nat.reduceMul,Nat.reduceSub,↓reduceIte,Nat.reduceEqDiff]);rfl)))|fail))
 (repeat ((first|refine XaY 11 (by decide +kernel) rfl rfl ?_|refine XaY 12 (by decide +kernel) rfl rfl ?_|fail);(first|(apply XaU;(case h=>(first|(apply Xab 4 rfl;(exact XaR _ rfl (by first|exact .inl ⟨_,rfl⟩|fail)))|(apply Xab 5 rfl;(exact Xag _ _ _ _ _ _ rfl rfl Xbb.out))));(apply Xae;(case hT=>((try simp only [wtn,Xpr,Xpo,Xpp,Xps,Xpw,Nat.reduceAdd,Nat.reduceMul,Nat.reduceSub,↓reduceIte,Nat.reduceEqDiff]);rfl));(case hH=>rfl)))|fail)))
 refine Xbu (by decide +kernel) ?_
 refine Xao rfl (by simp only [Xpy,Xpx];rfl) ?_
 (refine Xbw 13 (by decide +kernel) rfl rfl ?_;(first|((refine Xap 16 rfl ?_;(refine Xat _ _ _ _ _ _ _ rfl rfl Xa0.out XaS.out (by first|rfl|fail) (by first|exact Xpm rfl|fail) ?_));apply Xao;(case hT=>((try simp only [wtn,Xpr,Xpo,Xpp,Xps,Xpw,Nat.reduceAdd,Nat.reduceMul,Nat.reduceSub,↓reduceIte,Nat.reduceEqDiff]);rfl));(case hH=>((try simp only [wtn,Xpr,Xpo,Xpp,Xps,Xpw,Nat.reduceAdd,Nat.reduceMul,Nat.reduceSub,↓reduceIte,Nat.reduceEqDiff]);rfl)))|fail))
 refine XaV (by decide +kernel) ?_
 (repeat' (first|with_reducible (refine XbP ?_)|fail))
 refine Xbj _ _ (Xeu rfl (XaK.mk' [.box _ [.x (.int .i64 ts[k].kind),.x (.string (bs ts[k].text)),.x (.int .i64 (ts[k].line:Nat)),.x (.int .i64 (ts[k].col:Nat))],.row (some _) 1 1 _ _ _] [.box pb _,.box jb _,.row ad _ cap _ _ _] (by (repeat' (first|exact Xpn _|refine XpD _ ?_|refine (XpA (l₁:=[_])).trans (XpD _ ?_)|fail))) (XaI.refl _ _) VwL.nil)) ⟨(Xm0 ts[k].text,n),ad,cap,rfl,?_,?_,?_⟩
 ·simp only [XlS,Xpz,Xpq,Xpt];rfl
 ·rw [hp]
  exact (if_neg (by omega)).trans ((if_neg (by assumption)).trans (by rw [hn];rfl))
 ·exact hv2 (by omega)
end Go.Proofs.YtcmfamgnmehojaaGreatDoor
