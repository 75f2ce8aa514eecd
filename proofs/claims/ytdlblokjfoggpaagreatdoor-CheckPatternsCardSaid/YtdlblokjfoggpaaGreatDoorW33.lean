import Derived.Test.YtdlblokjfoggpaaGreatDoorW32
import Derived.Test.YtdlblokjfoggpaaGreatDoorW8
import Derived.Test.YtdlblokjfoggpaaGreatDoorW25
import Derived.Defers
import Derived.Recover
/- The program's parser: a job. -/
set_option linter.unusedSimpArgs false
set_option linter.unusedVariables false
--%old
set_option maxRecDepth 100000
set_option maxHeartbeats 8000000
namespace Go.Proofs.YtdlblokjfoggpaaGreatDoor
open Go.RowKit
structure JS where
 k:Nat
 j:JF
 seen:List (List UInt8)
 ad:Option Addr
 cap:Nat
 aE:Option Addr
 cE:Nat
 aN:Option Addr
 cN:Nat
 aL:Option Addr
 cL:Nat
theorem XoJ {ts:List Tok} {k:Nat} {kind:Int} {f:Flt} (h:Xdg ts k kind=.error f):(tkA ts k).kind≠kind∧f=flt 60 (tkA ts k):=by
 unfold Xdg at h
 split at h
 ·cases h
 ·rename_i hn;cases h;exact ⟨hn,rfl⟩
theorem Xk1 {ts:List Tok} {k:Nat} {w:List UInt8} {j j1:JF} {k1:Nat} (h:XcI ts k w j=.ok (j1,k1)) (hw:w≠XdQ):j1.needs=j.needs:=by
 by_cases h1:w=XlH
 ·subst h1;rw [Xgl] at h;cases hx:XcZ ts k 3 512<;>rw [hx] at h<;>cases h;rfl
 by_cases h2:w=Xij
 ·subst h2;rw [Xgi] at h;cases hx:XtB ts k j.env<;>rw [hx] at h<;>cases h;rfl
 unfold XcI at h
 rw [if_neg h1,if_neg h2,if_neg hw] at h
 split at h
 ·cases hx:XcZ ts k 4 128<;>rw [hx] at h<;>cases h;rfl
 split at h
 ·cases hx:Xqy ts k<;>rw [hx] at h<;>cases h;rfl
 split at h
 ·cases hx:XeA ts k with
  | error f=>rw [hx] at h;cases h
  | ok a=>
    cases hy:XeA ts (k+1) with
    | error f=>rw [hx] at h;simp only [bind,Except.bind,hy] at h;cases h
    | ok b=>
      cases hz:XeA ts (k+2) with
      | error f=>rw [hx] at h;simp only [bind,Except.bind,hy,hz] at h;cases h
      | ok c=>rw [hx] at h;simp only [bind,Except.bind,hy,hz] at h;cases h;rfl
 split at h
 ·cases hx:XeA ts k with
  | error f=>rw [hx] at h;cases h
  | ok a=>
    rw [hx] at h
    simp only [bind,Except.bind] at h
    split at h
    ·cases h
    ·cases hy:XeA ts (k+1) with
     | error f=>rw [hy] at h;cases h
     | ok b=>rw [hy] at h;cases h;rfl
 ·cases hx:Xdf (Xfj ts) 2 ts k []<;>rw [hx] at h<;>cases h;rfl
theorem Xgn {ts:List Tok} {name:Tok} {k:Nat} {seen:List (List UInt8)} {j:JF} (h:gIs ts k [125]=true):Xcn ts name k seen j=if seen.contains XlH then .ok (j,k+1) else .error (flt 6 name):=by rw [Xcn,if_pos h]
theorem Xxq (pb:Nat) (ts:List Tok) (k:Nat) (full:Bool) (hk:k < ts.length) (hT:XmX ts) :
  XcH Tryz.prog 76 [.box pb (tc ts k)] [.x (.pointer (some ⟨pb,0,none⟩)),.x (.bool full)] (fun r H'=>∃j k1,r=.agg (JF.cells j)∧H'=[.box pb (tc ts k1)]∧Xk2 ts k full=.ok (j,k1)∧k1 < ts.length∧JB j k1∧k < k1) (fun v _=>∃f,Xk2 ts k full=.error f∧v=fv f):=by
 have hl:=hT.len
 have hv:=Lib.hid hT.vt
 have hT1:=XfC pb ts k 1 hk hl
 have eG:Xk2 ts k full=Xdg ts k 1 >>= fun w=>if w.text≠XxQ then .error (flt 60 w) else Xfh ts (k+1) full >>= fun t=>XgY ts (k+2) [123] >>= fun _=>Xcn ts t (k+3) [] (Xk6 t):=by
  unfold Xk2
  rw [XeO]
  cases h:Xdg ts k 1 with
  | error f=>rfl
  | ok t=>
    have e:t=ts[k]:=by
     unfold Xdg at h
     rw [XaN hk] at h
     split at h
     ·cases h;rfl
     ·cases h
    have h8:=hT.short ts[k] (List.getElem_mem hk)
    simp only [bind,Except.bind]
    rw [if_neg (show ¬8192 < t.text.length by rw [e];omega)]
 unfold Tok.av at hT1
 refine XbE Tryz.func76 rfl ?_
 simp only [Tryz.ntmps76,Xyr,Xyu,Xyv,Xyw,Xyz,Xyy,Nat.reduceAdd,Nat.reduceSub]
 (repeat' (first|with_reducible (first|refine XaH ?_|refine Xal ?_|refine Xa4 ?_|refine Xat ?_|refine Xac ?_|refine Xae ?_)|(refine XaR _ rfl (fun h=>?_) (fun h=>?_)<;>((try (simp only [whn] at h));skip))|((apply Xar rfl);(case h=>((try (intro (hp:(_:Bool)=true);((try simp only [Bool.and_eq_true,Bool.not_eq_true',Bool.not_eq_true] at hp);(try simp only [hp,wte]);(try simp only [whn] at hp))));(first|(apply Xag 0 rfl;(exact XaW _ rfl))|(apply Xag 5 rfl;(exact Xaq _ _ _ _ _ _ rfl rfl Xbc.out))|(apply Xag 6 rfl;(exact XaK _ _ _ _ _ _ _ _ rfl rfl Xbt.out XaI.out (by first|exact Xyn rfl|fail) (by first|exact Xyn rfl|fail)))|(apply XbI;(case hs=>(intro _ _ h;cases h));(case hx=>rfl);(case hrun=>(intro w;simp [wtb,AV.val,go_sem];(try go_bits);rfl))))));(case hT=>((try simp (disch:=omega) only [wtn,Tok.av,Xys,Xyp,Xyq,Xyt,Xyx,Nat.reduceAdd,Nat.reduceMul,Nat.reduceSub,↓reduceIte,Nat.reduceEqDiff]);rfl)))|(refine Xav rfl ?_;refine Xas 100 Tryz.f100 [_] _ _ _ _ rfl rfl Tryz.func100 (by decide) rfl (XyB (l₁:=[_])) (VwL.refl _ _) (hT1) ?_ ?_;(case' refine_1=>(rintro _ _ ⟨rfl,rfl,hp,hk1⟩;(apply Xap;(case hT=>((try simp (disch:=omega) only [wtn,Tok.av,Xys,Xyp,Xyq,Xyt,Xyx,Nat.reduceAdd,Nat.reduceMul,Nat.reduceSub,↓reduceIte,Nat.reduceEqDiff]);rfl));(case hH=>((try simp (disch:=omega) only [wtn,Tok.av,Xys,Xyp,Xyq,Xyt,Xyx,Nat.reduceAdd,Nat.reduceMul,Nat.reduceSub,↓reduceIte,Nat.reduceEqDiff]);rfl)))));(case' refine_2=>(rintro _ _ ⟨f,hp,rfl⟩)))|(refine Xav rfl ?_;refine Xas 101 Tryz.f101 [] _ _ _ _ rfl rfl Tryz.func101 (by decide) rfl (Xyo _) (VwL.refl _ _) (XdC _ ts[k]) ?_ ?_;(case refine_1=>(rintro _ _ ⟨⟩));(case' refine_2=>(rintro _ _ ⟨rfl,rfl⟩)))|(refine Xab rfl ?_;((first|(refine XaQ 14 rfl ?_;(refine Xbf _ _ rfl XbT.out rfl (fun b=>?_)))|(refine XaQ 16 rfl ?_;(refine Xaw _ _ _ _ _ _ _ rfl rfl Xbt.out Xa1.out (by first|rfl|fail) (by first|exact Xyn rfl|fail) ?_)));apply Xap;(case hT=>((try simp (disch:=omega) only [wtn,Tok.av,Xys,Xyp,Xyq,Xyt,Xyx,Nat.reduceAdd,Nat.reduceMul,Nat.reduceSub,↓reduceIte,Nat.reduceEqDiff]);rfl));(case hH=>((try simp (disch:=omega) only [wtn,Tok.av,Xys,Xyp,Xyq,Xyt,Xyx,Nat.reduceAdd,Nat.reduceMul,Nat.reduceSub,↓reduceIte,Nat.reduceEqDiff]);rfl))))|fail))
 ·(repeat (with_reducible first|refine Xae ?_|fail));refine Xan _ _ (Xaj.mk' [] _ (Xyo _) (Xak.refl _ _) VwL.nil) ?_
  exact ⟨f,by rw [eG,hp];rfl,rfl⟩
 ·(repeat (with_reducible first|refine Xae ?_|fail));refine Xan _ _ (Xaj.mk' [] _ (Xyo _) (Xak.refl _ _) VwL.nil) ?_
  exact ⟨_,by rw [eG,hp];exact if_pos h,rfl⟩
 have hk2:=hv.out k hk (by omega)
 have hN:=XoB pb ts (k+1) full hk2 hl
 have eG2:=Lib.hid (show Xk2 ts k full=Xfh ts (k+1) full >>= fun t=>XgY ts (k+2) [123] >>= fun _=>Xcn ts t (k+3) [] (Xk6 t) by rw [eG,hp];exact if_neg (by rw [h];exact fun e=>e rfl))
 clear eG hp h hT1
 unfold Tok.av at hN
 (repeat' (first|with_reducible (first|refine XaH ?_|refine Xal ?_|refine Xat ?_|refine Xac ?_|refine Xae ?_)|((apply Xar rfl);(case h=>((try (intro (hp:(_:Bool)=true);((try simp only [Bool.and_eq_true,Bool.not_eq_true',Bool.not_eq_true] at hp);(try simp only [hp,wte]);(try simp only [whn] at hp))));(first|(apply Xag 0 rfl;(exact XaW _ rfl))|(apply Xag 5 rfl;(exact Xaq _ _ _ _ _ _ rfl rfl Xbc.out))|(apply Xag 6 rfl;(exact XaK _ _ _ _ _ _ _ _ rfl rfl Xbt.out XaI.out (by first|exact Xyn rfl|fail) (by first|exact Xyn rfl|fail)))|(apply Xag 10 rfl;(exact XlN _ _ _ _ rfl HPl.out (by decide) rfl (by simp [wtb,AV.one,Value.oneCell']))))));(case hT=>((try simp (disch:=omega) only [wtn,Tok.av,Xys,Xyp,Xyq,Xyt,Xyx,Nat.reduceAdd,Nat.reduceMul,Nat.reduceSub,↓reduceIte,Nat.reduceEqDiff]);rfl)))|(refine Xav rfl ?_;refine Xas 102 Tryz.f102 [_] _ _ _ _ rfl rfl Tryz.func102 (by decide) rfl (XyB (l₁:=[_])) (VwL.refl _ _) (hN) ?_ ?_;(case' refine_1=>(rintro _ _ ⟨rfl,rfl,hp2,hk3⟩;(apply Xap;(case hT=>((try simp (disch:=omega) only [wtn,Tok.av,Xys,Xyp,Xyq,Xyt,Xyx,Nat.reduceAdd,Nat.reduceMul,Nat.reduceSub,↓reduceIte,Nat.reduceEqDiff]);rfl));(case hH=>((try simp (disch:=omega) only [wtn,Tok.av,Xys,Xyp,Xyq,Xyt,Xyx,Nat.reduceAdd,Nat.reduceMul,Nat.reduceSub,↓reduceIte,Nat.reduceEqDiff]);rfl)))));(case' refine_2=>(rintro _ _ ⟨f,hp2,rfl⟩)))|(refine Xab rfl ?_;((first|(refine XaQ 14 rfl ?_;(refine Xbf _ _ rfl XbT.out rfl (fun b=>?_)))|(refine XaQ 16 rfl ?_;(refine Xaw _ _ _ _ _ _ _ rfl rfl Xbt.out Xa1.out (by first|rfl|fail) (by first|exact Xyn rfl|fail) ?_))|(refine XaQ 17 rfl ?_;(refine Xbx _ _ _ _ _ _ _ _ rfl XbY.out (by first|rfl|fail) rfl (by decide) rfl (fun b=>?_))));apply Xap;(case hT=>((try simp (disch:=omega) only [wtn,Tok.av,Xys,Xyp,Xyq,Xyt,Xyx,Nat.reduceAdd,Nat.reduceMul,Nat.reduceSub,↓reduceIte,Nat.reduceEqDiff]);rfl));(case hH=>((try simp (disch:=omega) only [wtn,Tok.av,Xys,Xyp,Xyq,Xyt,Xyx,Nat.reduceAdd,Nat.reduceMul,Nat.reduceSub,↓reduceIte,Nat.reduceEqDiff]);rfl))))|fail))
 ·(repeat (with_reducible first|refine Xae ?_|fail));refine Xan _ _ (Xaj.mk' [] _ (Xyo _) (Xak.refl _ _) VwL.nil) ?_
  exact ⟨f,by rw [eG2.out,hp2];rfl,rfl⟩
 have hk4:=hv.out (k+1) hk2 (by omega)
 have hS:=Xsq pb ts (k+1+1) [123] hk4 hl
 have eG3:=Lib.hid (show Xk2 ts k full=XgY ts (k+2) [123] >>= fun _=>Xcn ts ts[k+1] (k+3) [] (Xk6 ts[k+1]) by rw [eG2.out,hp2];rfl)
 clear eG2 hp2 hN
 (repeat' (first|with_reducible (first|refine XaH ?_|refine Xal ?_|refine Xbp ?_|refine Xat ?_|refine Xac ?_|refine Xae ?_)|((apply Xar rfl);(case h=>((try (intro (hp:(_:Bool)=true);((try simp only [Bool.and_eq_true,Bool.not_eq_true',Bool.not_eq_true] at hp);(try simp only [hp,wte]);(try simp only [whn] at hp))));(apply Xag 0 rfl;(exact Xbo _ rfl))));(case hT=>((try simp (disch:=omega) only [wtn,Tok.av,Xys,Xyp,Xyq,Xyt,Xyx,Nat.reduceAdd,Nat.reduceMul,Nat.reduceSub,↓reduceIte,Nat.reduceEqDiff]);rfl)))|(refine Xav rfl ?_;refine Xas 103 Tryz.f103 [_] _ _ _ _ rfl rfl Tryz.func103 (by decide) rfl (XyB (l₁:=[_,_,_])) (VwL.refl _ _) (hS) ?_ ?_;(case' refine_1=>(rintro _ _ ⟨rfl,rfl,hp3,hi3⟩;(apply Xap;(case hT=>((try simp (disch:=omega) only [wtn,Tok.av,Xys,Xyp,Xyq,Xyt,Xyx,Nat.reduceAdd,Nat.reduceMul,Nat.reduceSub,↓reduceIte,Nat.reduceEqDiff]);rfl));(case hH=>((try simp (disch:=omega) only [wtn,Tok.av,Xys,Xyp,Xyq,Xyt,Xyx,Nat.reduceAdd,Nat.reduceMul,Nat.reduceSub,↓reduceIte,Nat.reduceEqDiff]);rfl)))));(case' refine_2=>(rintro _ _ ⟨f,hp3,rfl⟩)))|fail))
 ·(repeat (with_reducible first|refine Xae ?_|fail));refine Xan _ _ (Xaj.mk' [] _ (Xyo _) (Xak.refl _ _) VwL.nil) ?_
  exact ⟨f,by rw [eG3.out,hp3];rfl,rfl⟩
 have hk5:k+1+1+1 < ts.length:=XfR hT.vt (k+1+1) hk4 hi3
 have eG4:=Lib.hid (show Xk2 ts k full=Xcn ts ts[k+1] (k+3) [] (Xk6 ts[k+1]) by rw [eG3.out,hp3];rfl)
 clear eG3 hp3 hS hi3
 rename_i ob t5 tb lb
 obtain ⟨jb,rfl⟩:∃x,x=b:=⟨b,rfl⟩
 refine Xa3 9 1 ?_
 refine Xa3 9 1 ?_
 refine Xa3 182 2 ?_
 apply Xah (S:=JS) (fun s=>frm 78 [(0,.x (.pointer (some ⟨pb,0,none⟩))),(4,.x (.pointer (some ⟨ob,0,none⟩))),(6,.x (.pointer (some ⟨tb,0,none⟩))),(7,.x (.pointer (some ⟨jb,0,none⟩))),(8,.x (.slice s.ad s.seen.length s.cap))]) (fun s=>[.row s.ad s.seen.length s.cap 9 1 (sa s.seen),.box pb (tc ts s.k),.box jb (jc s.j s.aE s.cE s.aN s.cN s.aL s.cL),.row s.aE s.j.env.length s.cE 182 2 (ea s.j.env),.row s.aN s.j.needs.length s.cN 9 1 (sa s.j.needs),.row s.aL s.j.ladder.length s.cL 100 2 (ra s.j.ladder),.box tb [.x (.int .i64 ts[k+1].kind),.x (.string (bs ts[k+1].text)),.x (.int .i64 (ts[k+1].line:Nat)),.x (.int .i64 (ts[k+1].col:Nat))],.box ob [.x (.string ⟨#[]⟩),.x (.string ⟨#[]⟩),.x (.slice none 0 0),.x (.slice none 0 0),.x (.bool false),.x (.string ⟨#[]⟩),.x (.int .i64 0),.x (.int .u64 0),.x (.int .u64 0),.x (.int .u64 0),.x (.int .i64 0),.x (.int .u64 0),.x (.slice none 0 0),.x (.int .i64 0),.x (.int .i64 0)]])
  (fun s=>k < s.k∧s.k < ts.length∧JB s.j s.k∧s.seen.length≤s.k∧(XdQ ∉ s.seen→s.j.needs=[])∧Xk2 ts k full=Xcn ts ts[k+1] s.k s.seen s.j) (fun s=>ts.length - s.k) ⟨k+1+1+1,Xk6 ts[k+1],[],none,0,none,0,none,0,some ⟨lb,0,none⟩,1⟩
 case h0=>exact Xaj.mk' [.box t5 _] [.row none 0 0 9 1 _,.box pb _,.box jb _,.row none 0 0 182 2 _,.row none 0 0 9 1 _,.row (some _) 1 1 _ 2 _,.box tb _,.box ob _] (by (repeat' (first|exact Xyo _|refine (XyB (l₁:=[_])).trans (XyE _ ?_)|refine (XyB (l₁:=[_,_])).trans (XyE _ ?_)|refine (XyB (l₁:=[_,_,_,_,_,_,_])).trans (XyE _ ?_)|fail))) (Xak.refl _ _) (by (repeat' (first|exact VwL.nil|(refine VwL.cons ?_ ?_)|exact Vw.refl _|exact Vw.top _|fail)))
 case hi=>exact ⟨by simp only;omega,hk5,⟨by simp [Xk6],by simp [Xk6],by simp [Xk6]⟩,by simp,fun _=>rfl,eG4.out⟩
 clear eG4
 rintro ⟨kk,j,seen,ad,cap,aE,cE,aN,cN,aL,cL⟩ ⟨g1,g2,g3,g4,g5,g6⟩
 simp only at g1 g2 g3 g4 g5 g6
 have g5':=Lib.hid g5
 have g6':=Lib.hid g6
 have g3':=Lib.hid g3
 clear g5 g6 g3
 have hT2:=XfC pb ts kk 1 g2 hl
 unfold Tok.av at hT2
 have hI:=XhN ts kk [125] g2 hl
 simp only [frm,Xyv,Xyw,Xyp,Xyq,XyC,XyD]
 simp only [tc] at hT2 hI
 simp only [tc,jc]
 generalize hgi:gIs ts kk [125]=gi at hI
 have hgi':=Lib.hid hgi
 clear hgi
 (repeat' (first|with_reducible (first|refine XaH ?_|refine Xal ?_|refine Xbp ?_|refine Xbj ?_|refine Xa4 ?_|refine XdV ?_|refine Xat ?_|refine Xac ?_|refine XcU ?_|refine Xcz ?_|refine Xae ?_|refine XaL ?_)|(refine XaR _ rfl (fun h=>?_) (fun h=>?_)<;>((try (simp only [whn] at h));skip))|((first|apply Xar rfl|apply Xeo _ _ rfl rfl rfl);(case h=>((try (intro (hp:(_:Bool)=true);((try simp only [Bool.and_eq_true,Bool.not_eq_true',Bool.not_eq_true] at hp);(try simp only [hp,wte]);(try simp only [whn] at hp))));(first|(apply Xag 0 rfl;(first|exact XaW _ rfl|exact Xbo _ rfl))|(apply Xag 1 rfl;(exact Xem _ _ _ _ _ rfl rfl rfl rfl))|(apply Xag 4 rfl;(exact Xbl _ rfl (by first|exact .inl ⟨_,rfl⟩|fail)))|(apply Xag 5 rfl;(exact Xaq _ _ _ _ _ _ rfl rfl Xbc.out))|(apply Xag 6 rfl;(exact XaK _ _ _ _ _ _ _ _ rfl rfl Xbt.out XaI.out (by first|exact Xyn rfl|fail) (by first|exact Xyn rfl|fail)))|(apply Xag 11 rfl;(first|exact Xb4 104 Tryz.f104 _ _ rfl rfl Tryz.func104 (by decide) rfl (by (repeat' (first|exact VwL.nil|(refine VwL.cons ?_ ?_)|exact Vw.refl _|exact Vw.box (List.Mem.tail _ (List.Mem.head _)) (VwL.refl _ _)|fail));done) (hI)|exact Xby 105 Tryz.f105 _ _ rfl rfl Tryz.func105 (by decide) rfl (VwL.refl _ _) (XqD _)|exact Xb4 106 Tryz.f106 _ _ rfl rfl Tryz.func106 (by decide) rfl (by (repeat' (first|exact VwL.nil|(refine VwL.cons ?_ ?_)|exact Vw.refl _|exact Vw.row (List.Mem.head _) (VwL.refl _ _)|exact Vw.row (List.Mem.tail _ (List.Mem.tail _ (List.Mem.head _))) (VwL.refl _ _)|fail));done) (Xsp seen _ (by omega))))|(apply XbI;(case hs=>(intro _ _ h;cases h));(case hx=>rfl);(case hrun=>(intro w;simp [wtb,AV.val,go_sem];(try go_bits);rfl))))));(case hT=>((try simp (disch:=omega) only [wtn,Tok.av,Xys,Xyp,Xyq,Xyt,Xyx,Nat.reduceAdd,Nat.reduceMul,Nat.reduceSub,↓reduceIte,Nat.reduceEqDiff]);rfl)))|(refine Xav rfl ?_;refine Xas 100 Tryz.f100 [_] _ _ _ _ rfl rfl Tryz.func100 (by decide) rfl (XyB (l₁:=[_])) (VwL.refl _ _) (hT2) ?_ ?_;(case' refine_1=>(rintro _ _ ⟨rfl,rfl,hp,hk1⟩;(apply Xap;(case hT=>((try simp (disch:=omega) only [wtn,Tok.av,Xys,Xyp,Xyq,Xyt,Xyx,Nat.reduceAdd,Nat.reduceMul,Nat.reduceSub,↓reduceIte,Nat.reduceEqDiff]);rfl));(case hH=>((try simp (disch:=omega) only [wtn,Tok.av,Xys,Xyp,Xyq,Xyt,Xyx,Nat.reduceAdd,Nat.reduceMul,Nat.reduceSub,↓reduceIte,Nat.reduceEqDiff]);rfl)))));(case' refine_2=>(rintro _ _ ⟨f,hp,rfl⟩)))|(refine Xav rfl ?_;refine Xas 101 Tryz.f101 [] _ _ _ _ rfl rfl Tryz.func101 (by decide) rfl (Xyo _) (VwL.refl _ _) (XdC _ ts[kk]) ?_ ?_;(case refine_1=>(rintro _ _ ⟨⟩));(case' refine_2=>(rintro _ _ ⟨rfl,rfl⟩)))|(refine Xav rfl ?_;refine Xas 101 Tryz.f101 [] _ _ _ _ rfl rfl Tryz.func101 (by decide) rfl (Xyo _) (VwL.refl _ _) (XdC _ ts[k+1]) ?_ ?_;(case refine_1=>(rintro _ _ ⟨⟩));(case' refine_2=>(rintro _ _ ⟨rfl,rfl⟩)))|(refine Xab rfl ?_;((first|(refine XaQ 13 rfl ?_;(refine Xcy _ _ _ _ _ _ _ _ _ _ _ _ _ _ rfl rfl XfM.out (Src.row _ rfl XfM.out) XbY.out (by first|rfl|fail) (Xqs _ _ (by omega) (by decide)) (fun ad cap=>?_)))|(refine XaQ 14 rfl ?_;(refine Xbf _ _ rfl XbT.out rfl (fun b=>?_)))|(refine XaQ 16 rfl ?_;(refine Xaw _ _ _ _ _ _ _ rfl rfl Xbt.out Xa1.out (by first|rfl|fail) (by first|exact Xyn rfl|fail) ?_))|(refine XaQ 17 rfl ?_;(refine Xbx _ _ _ _ _ _ _ _ rfl XbY.out (by first|rfl|fail) rfl (by decide) rfl (fun b=>?_))));apply Xap;(case hT=>((try simp (disch:=omega) only [wtn,Tok.av,Xys,Xyp,Xyq,Xyt,Xyx,Nat.reduceAdd,Nat.reduceMul,Nat.reduceSub,↓reduceIte,Nat.reduceEqDiff]);rfl));(case hH=>((try simp (disch:=omega) only [wtn,Tok.av,Xys,Xyp,Xyq,Xyt,Xyx,Nat.reduceAdd,Nat.reduceMul,Nat.reduceSub,↓reduceIte,Nat.reduceEqDiff]);rfl))))|fail))
 ·have hb:gIs ts kk [125]=false:=hgi'.out.trans h
  obtain ⟨e1,e2⟩:=XoJ hp
  (repeat (with_reducible first|refine Xae ?_|fail));refine Xan _ _ (Xaj.mk' [] _ (Xyo _) (Xak.refl _ _) VwL.nil) ?_
  exact ⟨f,g6'.out.trans ((Xhd hb (.inl e1)).trans (by rw [e2])),rfl⟩
 ·have hb:gIs ts kk [125]=false:=hgi'.out.trans (by assumption)
  (repeat (with_reducible first|refine Xae ?_|fail));refine Xan _ _ (Xaj.mk' [] _ (Xyo _) (Xak.refl _ _) VwL.nil) ?_
  exact ⟨_,g6'.out.trans ((Xhd hb (.inr (by rw [XaN g2];exact h))).trans (by rw [XaN g2])),rfl⟩
 ·have hb:gIs ts kk [125]=false:=hgi'.out.trans (by assumption)
  (repeat (with_reducible first|refine Xae ?_|fail));refine Xan _ _ (Xaj.mk' [] _ (Xyo _) (Xak.refl _ _) VwL.nil) ?_
  exact ⟨_,g6'.out.trans ((Xmm hb (by rw [XaN g2];exact hk1) (by rw [XaN g2];assumption) (by rw [XaN g2];exact h.1) (by rw [XaN g2];simpa using h.2)).trans (by rw [XaN g2])),rfl⟩
 ·have hb:gIs ts kk [125]=false:=hgi'.out.trans (by assumption)
  have hkk2:=hv.out kk g2 (by omega)
  have hit:ts[kk].text∈Xgs:=by assumption
  have hne:ts[kk].text ∉ seen:=fun hm=>(show ts[kk].text=[101,110,118]∨¬ts[kk].text∈seen by assumption).elim h (fun q=>q hm)
  have hIt:=Xr6 pb jb ts (kk+1) j ts[kk].text aE cE aN cN aL cL hkk2 hT (g3'.out.mono (by omega)) hit (fun e=>g5'.out (by rw [←e];exact hne))
  unfold hi at hIt
  have hne':=Lib.hid hne
  have hh:=Lib.hid h
  clear h hp hne
  simp only [tc] at hIt
  refine Xav rfl ?_
  refine Xas 107 Tryz.f107 [_,_,_,_,_] _ _ _ _ rfl rfl Tryz.func107 (by decide) rfl (show List.Perm _ ([.box pb _,.box jb _,.row aE _ _ _ _ _,.row aN _ _ _ _ _,.row aL _ _ _ _ _]++[.row (some ⟨b,0,none⟩) _ _ _ _ _,.box _ [.x (.int .i64 ts[kk].kind),_,_,_],.row ad _ cap _ _ _,.box tb _,.box ob _]) from by (repeat' (first|exact Xyo _|refine (XyB (l₁:=[_,_])).trans (XyE _ ?_)|refine (XyB (l₁:=[_,_,_])).trans (XyE _ ?_)|fail))) (VwL.refl _ _) hIt ?_ ?_
  ·rintro _ _ ⟨rfl,k1,j1,aE1,cE1,aN1,cN1,aL1,cL1,rfl,hx,hk7,hj7,hk8⟩
   (repeat' (first|with_reducible (first|refine Xat ?_|refine Xac ?_|refine Xax ?_)|fail))
   refine ⟨⟨k1,j1,seen++[ts[kk].text],ad,cap,aE1,cE1,aN1,cN1,aL1,cL1⟩,by simp only;omega,⟨by simp only;omega,hk7,hj7,by simp only [XyA,Xyr,Xyu];omega,fun hn=>?_,?_⟩,?_⟩
   ·exact (Xk1 hx (fun e=>hn (by simp [e]))).trans (g5'.out (fun e=>hn (by simp [e])))
   ·refine g6'.out.trans ((Xdz hb (by rw [XaN g2];exact hk1) (by rw [XaN g2];exact hit) (by rw [XaN g2];rintro ⟨q1,q2⟩;exact hne'.out (by simpa using q2))).trans ?_)
    rw [XaN g2,hx,if_neg (show ¬ts[kk].text=Xij from hh.out)]
    exact if_pos ⟨by simp only;omega,g2⟩
   ·simp only [Xsn,XyA,Xyr,Xyu]
    exact Xaj.mk' [.row (some ⟨b,0,none⟩) _ _ _ _ _,.box _ [.x (.int .i64 ts[kk].kind),_,_,_]] [.row ad _ cap _ _ _,.box pb _,.box jb _,.row aE1 _ _ _ _ _,.row aN1 _ _ _ _ _,.row aL1 _ _ _ _ _,.box tb _,.box ob _] (by (repeat' (first|exact Xyo _|refine (XyB (l₁:=[_,_,_,_,_])).trans (XyE _ ?_)|fail))) (Xak.refl _ _) (by (repeat' (first|exact VwL.nil|(refine VwL.cons ?_ ?_)|exact Vw.refl _|exact Vw.top _|fail)))
  ·rintro _ _ ⟨f,hx,rfl⟩
   (repeat (with_reducible first|refine Xae ?_|refine XaL ?_|fail));refine Xan _ _ (Xaj.mk' [] _ (Xyo _) (Xak.refl _ _) VwL.nil) ?_
   exact ⟨f,g6'.out.trans ((Xdz hb (by rw [XaN g2];exact hk1) (by rw [XaN g2];exact hit) (by rw [XaN g2];rintro ⟨q1,q2⟩;first|exact hne'.out (by simpa using q2)|fail)).trans (by rw [XaN g2,hx];rfl)),rfl⟩
 ·have hb:gIs ts kk [125]=false:=hgi'.out.trans (by assumption)
  have hkk2:=hv.out kk g2 (by omega)
  have hit:ts[kk].text∈Xgs:=by assumption
  have hIt:=Xr6 pb jb ts (kk+1) j ts[kk].text aE cE aN cN aL cL hkk2 hT (g3'.out.mono (by omega)) hit (fun e=>absurd (h.symm.trans e) (by decide))
  unfold hi at hIt
  have hh:=Lib.hid h
  have hne':=Lib.hid h
  clear h hp
  simp only [tc] at hIt
  refine Xav rfl ?_
  refine Xas 107 Tryz.f107 [_,_,_,_,_] _ _ _ _ rfl rfl Tryz.func107 (by decide) rfl (show List.Perm _ ([.box pb _,.box jb _,.row aE _ _ _ _ _,.row aN _ _ _ _ _,.row aL _ _ _ _ _]++[.box _ [.x (.int .i64 ts[kk].kind),_,_,_],.row ad _ cap _ _ _,.box tb _,.box ob _]) from by (repeat' (first|exact Xyo _|refine (XyB (l₁:=[_])).trans (XyE _ ?_)|refine (XyB (l₁:=[_,_])).trans (XyE _ ?_)|fail))) (VwL.refl _ _) hIt ?_ ?_
  ·rintro _ _ ⟨rfl,k1,j1,aE1,cE1,aN1,cN1,aL1,cL1,rfl,hx,hk7,hj7,hk8⟩
   (repeat' (first|with_reducible (first|refine Xat ?_|refine Xac ?_|refine Xax ?_)|fail))
   refine ⟨⟨k1,j1,seen,ad,cap,aE1,cE1,aN1,cN1,aL1,cL1⟩,by simp only;omega,⟨by simp only;omega,hk7,hj7,by simp only;omega,fun hn=>?_,?_⟩,?_⟩
   ·exact (Xk1 hx (fun e=>absurd (hh.out.symm.trans e) (by decide))).trans (g5'.out hn)
   ·refine g6'.out.trans ((Xdz hb (by rw [XaN g2];exact hk1) (by rw [XaN g2];exact hit) (by rw [XaN g2];rintro ⟨q1,q2⟩;exact q1 hh.out)).trans ?_)
    rw [XaN g2,hx,if_pos (show ts[kk].text=Xij from hh.out)]
    exact if_pos ⟨by simp only;omega,g2⟩
   ·exact Xaj.mk' [.box _ [.x (.int .i64 ts[kk].kind),_,_,_]] [.row ad _ cap _ _ _,.box pb _,.box jb _,.row aE1 _ _ _ _ _,.row aN1 _ _ _ _ _,.row aL1 _ _ _ _ _,.box tb _,.box ob _] (by (repeat' (first|exact Xyo _|refine (XyB (l₁:=[_,_,_,_,_])).trans (XyE _ ?_)|fail))) (Xak.refl _ _) (by (repeat' (first|exact VwL.nil|(refine VwL.cons ?_ ?_)|exact Vw.refl _|exact Vw.top _|fail)))
  ·rintro _ _ ⟨f,hx,rfl⟩
   (repeat (with_reducible first|refine Xae ?_|refine XaL ?_|fail));refine Xan _ _ (Xaj.mk' [] _ (Xyo _) (Xak.refl _ _) VwL.nil) ?_
   exact ⟨f,g6'.out.trans ((Xdz hb (by rw [XaN g2];exact hk1) (by rw [XaN g2];exact hit) (by rw [XaN g2];rintro ⟨q1,q2⟩;first|exact q1 hh.out|fail)).trans (by rw [XaN g2,hx];rfl)),rfl⟩
 ·have hb:gIs ts kk [125]=true:=hgi'.out.trans (by assumption)
  (repeat (with_reducible first|refine Xae ?_|fail));refine Xan _ _ (Xaj.mk' [] _ (Xyo _) (Xak.refl _ _) VwL.nil) ?_
  exact ⟨_,g6'.out.trans ((Xgn hb).trans (if_neg (by simpa [XlH] using h))),rfl⟩
 ·have hb:gIs ts kk [125]=true:=hgi'.out.trans (by assumption)
  have hres:=g6'.out.trans ((Xgn hb).trans (if_pos (by simpa [XlH] using h)))
  have hkk3:=XfR hT.vt kk g2 hb
  have hj3:JB j (kk+1):=g3'.out.mono (by omega)
  clear g6' g3' h
  refine Xc5 (.agg (JF.cells j)) [.box pb (tc ts (kk+1))] ?_ ⟨j,kk+1,rfl,rfl,hres,hkk3,hj3,by omega⟩
  clear hres
  exact XaF rfl (RV.cell 7 rfl rfl XaI.out (by simp) (by simp)) (Xaj.mk' [.row aE _ _ _ _ _,.row aN _ _ _ _ _,.row aL _ _ _ _ _,.row ad _ _ _ _ _,.box jb _,.box tb _,.box ob _] [.box pb _] (by (repeat' (first|exact Xyo _|refine XyE _ ?_|refine (XyB (l₁:=[_])).trans (XyE _ ?_)|refine (XyB (l₁:=[_,_,_])).trans (XyE _ ?_)|fail))) (Xak.refl _ _) (VwL.cons (Vw.aggx (by (repeat' (first|exact VwL.nil|(refine VwL.cons ?_ ?_)|exact Vw.refl _|exact Vw.row (List.Mem.head _) (VwL.refl _ _)|exact Vw.row (List.Mem.tail _ (List.Mem.head _)) (VwL.refl _ _)|exact Vw.row (List.Mem.tail _ (List.Mem.tail _ (List.Mem.head _))) (VwL.refl _ _)|fail)))) VwL.nil))
section
variable {P:Program} {Δ:List Deferred} {V O:Nat→Prop} {w0 w w':World} {H H' D:List Hp} {T T':List AV} {a:Act} {o:Oper} {ops:Array Oper} {rest:List Oper} {Q:List Deferred→Xb9}
def XvX (V O:Nat→Prop) (w0:World) (Q:List Deferred→Xb9):Exit→Act→World→Prop:=fun e a w=>∃Δ T H,Rel Δ V O w0 H T a w∧Q Δ e T H
def Xs8 (P:Program) (Δ:List Deferred) (c:Code) (Q:List Deferred→Xb9) (T:List AV) (H:List Hp):Prop:=
 ∀V O w0 a w,Rel Δ V O w0 H T a w→c.wp P (XvX V O w0 Q) a w
def XiC (P:Program) (Δ:List Deferred) (ops:Array Oper) (Q:List Deferred→Xb9) (rest:List Oper) (T:List AV) (H:List Hp):Prop:=
 ∀V O w0 a w,Rel Δ V O w0 H T a w→wpList P ops (XvX V O w0 Q) rest a w
theorem Xs9 {c:Code} (h:awp P c (Q Δ) T H):Xs8 P Δ c Q T H:=fun V O w0 a w r=>wp_mono (h Δ V O w0 a w r) fun e a w ⟨T,H,r,q⟩=>⟨Δ,T,H,r,q⟩
theorem XdW {x y:Code} (h:awp P x (XbH (Xs8 P Δ y Q) (Q Δ)) T H):Xs8 P Δ (.seq x y) Q T H:=fun V O w0 a w r=>
 wp_seq (wp_mono (h Δ V O w0 a w r) fun e a w ⟨T,H,r,q⟩=>by
  cases e with
  | normal=>exact q V O w0 a w r
  | _=>exact ⟨Δ,T,H,r,q⟩)
theorem XjI {id:Nat} {l:List Oper} {y:Code} (h:XiC P Δ l.toArray (fun Δ' e T H=>match e with|.normal=>Xs8 P Δ' y Q T H|e=>Q Δ' e T H) l T H):Xs8 P Δ (.seq (.region id l.toArray false) y) Q T H:=fun V O w0 a w r=>
 wp_seq (wp_mono (wp_region_lit (h V O w0 a w r)) fun e a w ⟨Δ',T,H,r,q⟩=>by
  cases e with
  | normal=>exact q V O w0 a w r
  | _=>exact ⟨Δ',T,H,r,q⟩)
theorem Xnv (h:Q Δ .normal T H):XiC P Δ ops Q [] T H:=fun V O w0 a w r=>wpList_nil ⟨Δ,T,H,r,h⟩
theorem Xl8 (hg:o.guard=none) (h:Stp P o T H (XiC P Δ ops Q rest)):XiC P Δ ops Q (o :: rest) T H:=fun V O w0 a w r=>
 wpList_plain hg fun K hK=>h Δ V O w0 a w K _ r fun T' H' a' w' hk hr=>hK _ _ (hk V O w0 a' w' hr)
theorem Xnu {T':List AV} (hg:o.guard=none) (av:AV) (h:Evl P o (ev T) H av) (hT:Xa9 T o.dst av=T') (hK:XiC P Δ ops Q rest T' H):XiC P Δ ops Q (o :: rest) T H:=Xl8 hg (Xbi av h (hT▸hK))
theorem XjH {c:Operand} {args:Array Operand} {tys:Array TypeId} {f:Fn} {fs cs:Array Value} (hg:o.guard=none) (ho:o.op=.defer { callee:=.value c,args:=args,argTypes:=tys }) (hc:ev T c=.x (.func f fs cs)) (ha:args=#[]) (hd:o.dst=none)
  (hK:XiC P ({ target:=.fn f cs,args:=fs } :: Δ) ops Q rest T H):XiC P Δ ops Q (o :: rest) T H:=fun V O w0 a w r=>wpList_plain hg fun K hKc=>by
 have hrun:(execOp a.eval o).run P w=.ok (.defer { target:=.fn f cs,args:=fs }) w:=by
  simp [execOp,ho,resolve,r.evx hc,Deferred.ofValue,ha]
 unfold Oper.wp
 rw [hrun,Oper.upon_defer,hd]
 refine hKc _ _ (hK V O w0 _ w ⟨r.tmps,r.hok,r.fr,r.own,by rw [←r.defers];rfl,r.vlt,r.gl⟩)
theorem XiD {f:FuncId} {fn:Func} {c:Code} {args:List AV} {R:Ending→World→Prop} {vs:List Value} (hf:P.funcs[f]?=some fn) (hb:fn.body=some c) (hV:∀k,V k→k < w.heap.size) (hH:HOk V w H) (hd:DenL (FB V H) w args vs) (hgl:GL (Xch H) w)
  (h:Xs8 P [] c Q (args++List.replicate (fn.ntmps - args.length) .top) H)
  (hend:∀Δ e T H1 a w',Rel Δ V (Xch H) w H1 T a w'→Q Δ e T H1→bodyPostD P fn R e a w'):Calls P f vs.toArray w R:=by
 have hlen:=hd.len
 refine calls_of_wp_defers hf hb ?_
 have r:Rel [] V (Xch H) w H (args++List.replicate (fn.ntmps - args.length) .top) { tmps:=vs.toArray++Array.replicate (fn.ntmps - vs.toArray.size) undef,defers:=[] } w:=by
  refine ⟨?_,hH,Fr.refl _ _,fun x hx k hk=>.inl ⟨x,hx,hk⟩,rfl,hV,hgl⟩
  simp only [Array.toList_append,Array.toList_replicate,List.size_toArray,hlen]
  refine hd.app (DenL.of (by simp) fun j av u h1 h2=>?_)
  rw [List.getElem?_replicate] at h1
  split at h1
  ·cases h1;rw [Den];trivial
  ·cases h1
 exact wp_mono (h V (Xch H) w _ w r) fun e a' w' ⟨Δ,T',H1,r1,hq⟩=>hend Δ e T' H1 a' w' r1 hq
end
open Go.RowKit
section
variable {P:Program} {Δ:List Deferred} {V O:Nat→Prop} {w0 w w':World} {H H' D R:List Hp} {T T':List AV} {a:Act}
def Xm5 (P:Program) (f:FuncId) (H:List Hp) (args:List AV) (u u':FrameMode) (Q:AV→List Hp→Prop):Prop:=
 ∀(V:Nat→Prop) (w:World) (vs:List Value),(∀k,V k→k < w.heap.size)→HOk V w H→DenL (FB V H) w args vs→GL (Xch H) w →
  CallsD P f vs.toArray u w fun e u1 w'=>u1=u'∧∃r H' v,Q r H'∧e=.returned v∧Den (FB V H') w' r v∧HOk V w' H'∧Fr (Xch H) w w'∧∀h∈H',∀k,h.blk=some k→Xch H k∨w.heap.size≤k
theorem XkI {f:FuncId} {fn:Func} {c:Code} {args:List AV} {u u':FrameMode} {Q:AV→List Hp→Prop} (hf:P.funcs[f]?=some fn) (hb:fn.body=some c)
  (h:∀V O w0 a w,Rel [] V O w0 H (args++List.replicate (fn.ntmps - args.length) .top) a w→∀c₀ cs,c₀.mode=u→c.wpS P (fun e a' cs' w'=>cs'={ c₀ with mode:=u' } :: cs∧Xe9 [] V O w0 (Xdx P fn Q) e a' w') a (c₀ :: cs) w):Xm5 P f H args u u' Q:=by
 intro V w vs hV hH hd hgl
 have hlen:=hd.len
 refine callsD_of_wpS hf hb fun c₀ cs hu=>?_
 have r:Rel [] V (Xch H) w H (args++List.replicate (fn.ntmps - args.length) .top) { tmps:=vs.toArray++Array.replicate (fn.ntmps - vs.toArray.size) undef,defers:=[] } w:=by
  refine ⟨?_,hH,Fr.refl _ _,fun x hx k hk=>.inl ⟨x,hx,hk⟩,rfl,hV,hgl⟩
  simp only [Array.toList_append,Array.toList_replicate,List.size_toArray,hlen]
  refine hd.app (DenL.of (by simp) fun j av u h1 h2=>?_)
  rw [List.getElem?_replicate] at h1
  split at h1
  ·cases h1;rw [Den];trivial
  ·cases h1
 intro b k hb1 hb2
 obtain ⟨e,a',cs',w',hq,harr⟩:=h V (Xch H) w _ w r c₀ cs hu b k hb1 hb2
 refine ⟨e,a',cs',w',?_,harr⟩
 obtain ⟨hcs,T',H1,r1,he,res,H',hres,hq⟩:=hq
 obtain ⟨v,g1,g2,g3,g4⟩:=hres [] V (Xch H) w a' w' r1
 rcases he with rfl|rfl<;>exact ⟨r1.defers,u',hcs,v,g1,rfl,res,H',v,hq,rfl,g2,g3,r1.fr,fun x hx k hk=>by obtain ⟨y,hy,e⟩:=g4 x hx k hk;exact r1.own y hy k e⟩
theorem XpM {id:Nat} {o0 o1:Oper} {y:Code} {s0 s1:Tmp} {fn:Func} {Q:AV→List Hp→Prop} (h0:o0.op=.call { callee:=.builtin .recover,args:=#[],argTypes:=#[] }) (d0:o0.dst=some s0) (g0:o0.guard=none) (h1:o1.op=.assign (.tmp s0)) (d1:o1.dst=some s1) (g1:o1.guard=none)
  (r:Rel [] V O w0 H T a w) {c₀:Frame} {cs:List Frame} {v:Value} {m':FrameMode} (hrec:recoverD (c₀ :: cs)=some (v,{ c₀ with mode:=m' } :: cs)∨recoverD (c₀ :: cs)=none∧v=.nilIface∧m'=c₀.mode) (hev:ev (Xa9 T (some s0) (.x v)) (.tmp s0)=.x v)
  (hK:awp P y (Xdx P fn Q) (Xa9 (Xa9 T (some s0) (.x v)) (some s1) (.x v)) H):(Code.seq (.region id #[o0,o1] false) y).wpS P (fun e a' cs' w'=>cs'={ c₀ with mode:=m' } :: cs∧Xe9 [] V O w0 (Xdx P fn Q) e a' w') a (c₀ :: cs) w:=by
 refine wpS_seq (wpS_region ?_)
 have r1:Rel [] V O w0 H (Xa9 T (some s0) (.x v)) (a.put (some s0) v) w:=r.put _ (by rw [Den])
 have e1:(a.put (some s0) v).eval (.tmp s0)=v:=by
  have:=r1.ev (.tmp s0)
  rw [hev,Den] at this
  exact this
 have r2:Rel [] V O w0 H (Xa9 (Xa9 T (some s0) (.x v)) (some s1) (.x v)) ((a.put (some s0) v).put (some s1) v) w:=r1.put _ (by rw [Den])
 have x0:(execOp a.eval o0).run P w=.ok .recover w:=by simp [execOp,h0,resolve,invoke,builtin]
 have x1:(execOp (a.put (some s0) v).eval o1).run P w=.ok (.value v) w:=by simp [execOp,h1,e1]
 have hfin:∀cs',cs'={ c₀ with mode:=m' } :: cs→y.wpS P (fun e a' cs' w'=>cs'={ c₀ with mode:=m' } :: cs∧Xe9 [] V O w0 (Xdx P fn Q) e a' w') ((a.put (some s0) v).put (some s1) v) cs' w:=by
  rintro cs' rfl
  refine wpS_of_wp (wp_mono (hK [] V O w0 _ w r2) fun e a' w' h=>⟨rfl,h⟩)
 have hw0:∀y,Region.wanted o0 y=true:=fun y=>by simp [Region.wanted,g0]
 have hw1:∀y,Region.wanted o1 y=true:=fun y=>by simp [Region.wanted,g1]
 show wpOpsS P #[o0,o1] _ [0,1] a (c₀ :: cs) w
 have s1':∀cs',cs'={ c₀ with mode:=m' } :: cs→wpOpsS P #[o0,o1] (Exit.thenS (y.wpS P (fun e a' cs' w'=>cs'={ c₀ with mode:=m' } :: cs∧Xe9 [] V O w0 (Xdx P fn Q) e a' w')) (fun e a' cs' w'=>cs'={ c₀ with mode:=m' } :: cs∧Xe9 [] V O w0 (Xdx P fn Q) e a' w')) [1] (a.put o0.dst v) cs' w:=by
  intro cs' hcs
  rw [d0]
  unfold wpOpsS
  simp only [show (#[o0,o1]:Array Oper)[1]?=some o1 from rfl,hw1,if_true,x1]
  unfold Oper.upon
  simp only [wpOpsS,d1]
  exact hfin cs' hcs
 unfold wpOpsS
 simp only [show (#[o0,o1]:Array Oper)[0]?=some o0 from rfl,hw0,if_true,x0]
 rcases hrec with hrec|⟨hrec,rfl,rfl⟩
 ·rw [hrec]
  exact s1' _ rfl
 ·rw [hrec]
  exact s1' _ rfl
theorem XtQ {fn:Func} {fv:Fn} {cap dargs:Array Value} {f:FuncId} {vs:List Value} {H1:List Hp} {u u':FrameMode} {QD:AV→List Hp→Prop} {Rp:Ending→World→Prop} (r:Rel Δ V O w0 H T a w) (hp:H.Perm (H1++R)) (hu:u≠.run) (hset:settle u'=.returning)
  (hi:(invoke (.fn fv cap) dargs).run P w=.ok (.enter f vs.toArray) w) (hS:Xm5 P f H1 (vs.map AV.x) u u' QD)
  (hK:∀r' H' w',QD r' H'→Rel Δ V O w0 (H'++R) T a w'→∃v,(results fn a.tmps).run P w'=.ok v w'∧Rp (.returned v) w'):Leaves P fn a.tmps Rp [{ target:=.fn fv cap,args:=dargs }] u w:=by
 have r1:=r.perm hp
 have hap:=List.pairwise_append.1 r1.hok.apart
 have hVF:∀k,FB (FB V R) H1 k↔FB V (H1++R) k:=fun k=>by
  simp only [FB,List.mem_append]
  constructor
  ·rintro ((h|⟨x,hx,e⟩)|⟨x,hx,e⟩)
   ·exact .inl h
   ·exact .inr ⟨x,.inr hx,e⟩
   ·exact .inr ⟨x,.inl hx,e⟩
  ·rintro (h|⟨x,hx|hx,e⟩)
   ·exact .inl (.inl h)
   ·exact .inr ⟨x,hx,e⟩
   ·exact .inl (.inr ⟨x,hx,e⟩)
 have hV:∀k,FB V R k→k < w.heap.size:=fun k hk=>by
  rcases hk with hk|⟨x,hx,e⟩
  ·exact Nat.lt_of_lt_of_le (r.vlt k hk) r.fr.size
  ·exact (r1.hok.lt x (by simp [hx]) k e).1
 have hH1:HOk (FB V R) w H1:=⟨fun x hx=>(r1.hok.ok x (by simp [hx])).weak fun k hk=>(hVF k).1 hk,hap.1,fun x hx k hk=>⟨(r1.hok.lt x (by simp [hx]) k hk).1,fun hv=>by
  rcases hv with hv|⟨y,hy,e⟩
  ·exact (r1.hok.lt x (by simp [hx]) k hk).2 hv
  ·exact hap.2.2 x hx y hy k hk e⟩⟩
 refine leaves_cons hu hi ((hS (FB V R) w vs hV hH1 DenL.exact (r1.gb.mono fun k ⟨x,hx,e⟩=>⟨x,by simp [hx],e⟩)).mono ?_)
 rintro e u1 w' ⟨rfl,r',H',v,hq,rfl,hdv,hok',hfr,hown⟩
 obtain ⟨k1,-⟩:=r1.called hok' hfr hown
 obtain ⟨v',h1,h2⟩:=hK r' H' w' hq k1
 show Leaves P fn a.tmps Rp [] (settle u1) w'
 rw [hset]
 exact ⟨v',h1,h2⟩
def Xye (P:Program) (fn:Func) (Q:AV→List Hp→Prop):List Deferred→Xb9
 | [],e,T,H=>Xdx P fn Q e T H
 | [d],e,T,H=>∃(u u':FrameMode) (f:FuncId) (fv:Fn) (cap dargs:Array Value) (vs:List Value) (H1 R:List Hp) (QD:AV→List Hp→Prop),((e=.ret∧u=.returning)∨(e=.normal∧u=.returning)∨∃ch,e=.panic ch∧u=.panicking ch)∧d={ target:=.fn fv cap,args:=dargs }∧H.Perm (H1++R)∧settle u'=.returning ∧
   (∀w,(invoke (.fn fv cap) dargs).run P w=.ok (.enter f vs.toArray) w)∧Xm5 P f H1 (vs.map AV.x) u u' QD∧∀r' H',QD r' H'→∃r H'',Res P fn T (H'++R) r H''∧Q r H''
 | _,_,_,_=>False
theorem XkJ {f:FuncId} {fn:Func} {c:Code} {args:List AV} {Q:AV→List Hp→Prop} (hf:P.funcs[f]?=some fn) (hb:fn.body=some c)
  (h:Xs8 P [] c (Xye P fn Q) (args++List.replicate (fn.ntmps - args.length) .top) H):Xay P f H args Q:=by
 intro V w vs hV hH hd hgl
 refine XiD hf hb hV hH hd hgl h ?_
 intro Δ e T H1 a w' r hq
 have hdef:=r.defers
 have fin:∀res H' Δ (a:Act) w' H1,Rel Δ V (Xch H) w H1 T a w'→Res P fn T H1 res H'→Q res H'→∃v,(results fn a.tmps).run P w'=.ok v w'∧∃r H' v',Q r H'∧Ending.returned v=.returned v'∧Den (FB V H') w' r v'∧HOk V w' H'∧Fr (Xch H) w w'∧∀h∈H',∀k,h.blk=some k→Xch H k∨w.heap.size≤k:=by
  intro res H' Δ a w' H1 r hres hq
  obtain ⟨v,g1,g2,g3,g4⟩:=hres Δ V (Xch H) w a w' r
  exact ⟨v,g1,res,H',v,hq,rfl,g2,g3,r.fr,fun x hx k hk=>by obtain ⟨y,hy,e⟩:=g4 x hx k hk;exact r.own y hy k e⟩
 match Δ,hq with
 | [],hq=>
   obtain ⟨he,res,H',hres,hq⟩:=hq
   have:=fin res H' _ a w' H1 r hres hq
   rcases he with rfl|rfl
   ·show Leaves P fn a.tmps _ a.defers .returning w'
    rw [hdef];exact this
   ·show Leaves P fn a.tmps _ a.defers .returning w'
    rw [hdef];exact this
 | [d],hq=>
   obtain ⟨u,u',f2,fv,cap,dargs,vs2,H2,R,QD,he,rfl,hp,hset,hi,hS,hK⟩:=hq
   have hk:=fun (hu:u≠.run)=>XtQ (fn:=fn) (Rp:=fun e w'=>∃r H' v',Q r H'∧e=.returned v'∧Den (FB V H') w' r v'∧HOk V w' H'∧Fr (Xch H) w w'∧∀h∈H',∀k,h.blk=some k→Xch H k∨w.heap.size≤k) r hp hu hset (hi w') hS fun r' H' w' hq r'=>by
    obtain ⟨res,H'',hres,hq⟩:=hK _ H' hq
    obtain ⟨v,h1,h2⟩:=fin res H'' _ a w' _ r' hres hq
    exact ⟨v,h1,h2⟩
   rcases he with ⟨rfl,rfl⟩|⟨rfl,rfl⟩|⟨ch,rfl,rfl⟩
   ·show Leaves P fn a.tmps _ a.defers .returning w'
    rw [hdef];exact hk (by simp)
   ·show Leaves P fn a.tmps _ a.defers .returning w'
    rw [hdef];exact hk (by simp)
   ·show Leaves P fn a.tmps _ a.defers (.panicking ch) w'
    rw [hdef];exact hk (by simp)
end
end Go.Proofs.YtdlblokjfoggpaaGreatDoor
