import Derived.Test.YtdlblokjfoggpaaGreatDoorW28
import Derived.Test.YtdlblokjfoggpaaGreatDoorW8
import Derived.Test.YtdlblokjfoggpaaGreatDoorW25
/- The program's parser: names that are needed, rungs. -/
set_option linter.unusedSimpArgs false
set_option linter.unusedVariables false
--%old
set_option maxRecDepth 100000
set_option maxHeartbeats 8000000
namespace Go.Proofs.YtdlblokjfoggpaaGreatDoor
open Go.RowKit
theorem Xrq (l:List (List UInt8)) (s:List UInt8) (hl:l.length≤1000000):Xay Tryz.prog 119 [] [.sq l.length (sa l),.x (.string (bs s))] (fun r H'=>∃i:Int,r=.x (.int .i64 i)∧H'=[]∧(0≤i↔s∈l)):=by
 refine Xcx Tryz.func119 rfl ?_
 simp only [Tryz.ntmps119,Xyr,Xyu,Xyv,Xyw,Xyz,Xyy,Nat.reduceAdd,Nat.reduceSub]
 (repeat' (first|with_reducible (first|refine XaH ?_|refine Xal ?_|refine Xbp ?_|refine Xat ?_|refine Xac ?_)|((apply Xar rfl);(case h=>((try (intro (hp:(_:Bool)=true);((try simp only [Bool.and_eq_true,Bool.not_eq_true',Bool.not_eq_true] at hp);(try simp only [hp,wte]);(try simp only [whn] at hp))));(first|(apply Xag 0 rfl;(first|exact XaW _ rfl|exact Xbo _ rfl))|(apply Xag 3 rfl;(exact Xen _ _ _ _ _ _ HEl.out rfl rfl)))));(case hT=>((try simp only [wtn,Xys,Xyp,Xyq,Xyt,Xyx,Nat.reduceAdd,Nat.reduceMul,Nat.reduceSub,↓reduceIte,Nat.reduceEqDiff]);rfl)))|fail))
 refine Xah (S:=Nat) (fun k=>frm 19 [(0,.sq l.length (sa l)),(1,.x (.string (bs s))),(7,.x (.int .i64 l.length)),(8,.x (.int .i64 k))]) (fun _=>[]) (fun k=>k≤l.length∧s ∉ l.take k) (fun k=>l.length - k) 0 (Xaj.mk' [] _ (Xyo _) (Xak.refl _ _) (by (repeat' (first|exact VwL.nil|(refine VwL.cons ?_ ?_)|exact Vw.refl _|exact Vw.top _|fail)))) ⟨Nat.zero_le _,by simp⟩ fun k hk=>?_
 simp only [frm,Xyv,Xyw,Xyp,Xyq,XyC,XyD]
 obtain ⟨hk,hn⟩:=hk
 have hn':=Lib.hid hn
 clear hn
 (repeat' (first|with_reducible (first|refine XaH ?_|refine Xal ?_|refine Xbp ?_|refine Xbj ?_|refine Xa4 ?_|refine XdV ?_|refine Xat ?_|refine Xac ?_|refine XcU ?_|refine XbB ?_|refine Xcz ?_|refine Xax ?_|refine Xbs ?_)|(refine XaR _ rfl (fun h=>?_) (fun h=>?_)<;>((try (simp only [whn] at h));skip))|((apply Xar rfl);(case h=>((try (intro (hp:(_:Bool)=true);((try simp only [Bool.and_eq_true,Bool.not_eq_true',Bool.not_eq_true] at hp);(try simp only [hp,wte]);(try simp only [whn] at hp))));(first|(apply Xag 0 rfl;(first|exact XaW _ rfl|exact Xbo _ rfl))|(apply Xag 6 rfl;(exact Xbg _ _ _ _ _ rfl rfl XaI.out (by first|exact Xyn rfl|fail) (by first|exact Xyn rfl|fail)))|(apply Xag 7 rfl;(exact Xbv _ _ _ _ _ _ _ _ _ _ rfl rfl rfl HEl.out rfl (by first|omega|fail) (by simp;first|omega|fail)))|(apply XbI;(case hs=>(intro _ _ h;cases h));(case hx=>rfl);(case hrun=>(intro w;simp [wtb,AV.val,go_sem];(try go_bits);rfl))))));(case hT=>((try simp (disch:=assumption) only [wtn,Xh2,Xys,Xyp,Xyq,Xyt,Xyx,Nat.reduceAdd,Nat.reduceMul,Nat.reduceSub,↓reduceIte,Nat.reduceEqDiff]);rfl)))|fail))
 ·refine Xaa _ _ (XaF rfl (RV.tmp _) (Xaj.mk' [] _ (Xyo _) (Xak.refl _ _) (VwL.refl _ _))) ?_
  exact ⟨k,rfl,rfl,by simp [h]⟩
 ·exact ⟨k+1,by omega,⟨by omega,by rw [XbA l k (by assumption)];simp only [List.mem_append,List.mem_singleton,not_or];exact ⟨hn'.out,fun e=>h e⟩⟩,(Xaj.mk' [] _ (Xyo _) (Xak.refl _ _) (by (repeat' (first|exact VwL.nil|(refine VwL.cons ?_ ?_)|exact Vw.refl _|exact Vw.top _|fail))))⟩
 ·refine Xaa _ _ (XaF rfl (RV.tmp _) (Xaj.mk' [] _ (Xyo _) (Xak.refl _ _) (VwL.refl _ _))) ?_
  have hn:=hn'.out
  rw [List.take_of_length_le (by omega)] at hn
  exact ⟨-1,rfl,rfl,by simp [hn]⟩
theorem Xsp (l:List (List UInt8)) (s:List UInt8) (hl:l.length≤1000000):Xay Tryz.prog 106 [] [.sq l.length (sa l),.x (.string (bs s))] (fun r H'=>r=.x (.bool (decide (s∈l)))∧H'=[]):=by
 refine Xcx Tryz.func106 rfl ?_
 simp only [Tryz.ntmps106,Xyr,Xyu,Xyv,Xyw,Xyz,Xyy,Nat.reduceAdd,Nat.reduceSub]
 (repeat' (first|with_reducible (first|refine XaH ?_|refine Xal ?_|refine Xbj ?_|refine Xat ?_|refine Xac ?_)|((apply Xar rfl);(case h=>((try (intro (hp:(_:Bool)=true);((try simp only [Bool.and_eq_true,Bool.not_eq_true',Bool.not_eq_true] at hp);(try simp only [hp,wte]);(try simp only [whn] at hp))));(first|(apply Xag 0 rfl;(first|exact XaW _ rfl|exact Xbo _ rfl))|(apply XbI;(case hs=>(intro _ _ h;cases h));(case hx=>rfl);(case hrun=>(intro w;simp [wtb,AV.val,go_sem];(try go_bits);rfl))))));(case hT=>((try simp only [wtn,Xys,Xyp,Xyq,Xyt,Xyx,Nat.reduceAdd,Nat.reduceMul,Nat.reduceSub,↓reduceIte,Nat.reduceEqDiff]);rfl)))|(refine Xab rfl ?_;((refine XaQ 11 rfl ?_;(refine Xau 119 Tryz.f119 ([]) _ _ _ rfl rfl Tryz.func119 (by decide) rfl (Xyo _) (VwL.refl _ _) (Xrq l s hl) ?_;rintro _ _ ⟨i,rfl,rfl,hi⟩));apply Xap;(case hT=>((try simp only [wtn,Xys,Xyp,Xyq,Xyt,Xyx,Nat.reduceAdd,Nat.reduceMul,Nat.reduceSub,↓reduceIte,Nat.reduceEqDiff]);rfl));(case hH=>((try simp only [wtn,Xys,Xyp,Xyq,Xyt,Xyx,Nat.reduceAdd,Nat.reduceMul,Nat.reduceSub,↓reduceIte,Nat.reduceEqDiff]);rfl))))|fail))
 refine Xaa _ _ (XaF rfl (RV.tmp _) (Xaj.mk' [] _ (Xyo _) (Xak.refl _ _) (VwL.refl _ _))) ?_
 exact ⟨by rw [←decide_eq_decide.2 hi];rfl,rfl⟩
def jc (j:JF) (aE:Option Addr) (cE:Nat) (aN:Option Addr) (cN:Nat) (aL:Option Addr) (cL:Nat):List AV:=[.x (.string (bs j.name)),.x (.string (bs j.run)),.x (.slice aE j.env.length cE),.x (.slice aN j.needs.length cN),.x (.bool j.hasr),.x (.string (bs j.ready)),.x (.int .i64 j.restart),.x (.int .u64 j.base),.x (.int .u64 j.cap),.x (.int .u64 j.stable),.x (.int .i64 j.burst),.x (.int .u64 j.window),.x (.slice aL j.ladder.length cL),.x (.int .i64 j.line),.x (.int .i64 j.col)]
theorem Xtz (ts:List Tok) (k:Nat) (out:List (List UInt8)):XfI ts k out=Xfh ts k (decide (16≤out.length)) >>= fun t=>if t.text∈out then .error (flt 5 t) else .ok t.text:=by
 unfold XfI
 cases Xfh ts k (decide (16≤out.length)) with
 | error f=>rfl
 | ok t=>simp only [bind,Except.bind,List.contains_iff_mem]
theorem Xvo (n:Nat):decide ((16:Int)≤(n:Int))=decide (16≤n):=decide_eq_decide.2 (by omega)
theorem Xv1 (pb jb:Nat) (ts:List Tok) (k:Nat) (j:JF) (aE:Option Addr) (cE:Nat) (aN:Option Addr) (cN:Nat) (aL:Option Addr) (cL:Nat) (hk:k < ts.length) (hT:XmX ts) (hj:j.needs.length≤1000000) :
  XcH Tryz.prog 124 [.box pb (tc ts k),.box jb (jc j aE cE aN cN aL cL),.row aN j.needs.length cN 9 1 (sa j.needs)] [.x (.pointer (some ⟨pb,0,none⟩)),.x (.pointer (some ⟨jb,0,none⟩))]
   (fun r H'=>∃x a c,r=.x (.tuple #[])∧H'=[.box pb (tc ts (k+1)),.box jb (jc { j with needs:=j.needs++[x] } aE cE a c aL cL),.row a (j.needs++[x]).length c 9 1 (sa (j.needs++[x]))]∧XfI ts k j.needs=.ok x∧k+1 < ts.length)
   (fun v _=>∃f,XfI ts k j.needs=.error f∧v=fv f):=by
 have hNm:=fun full=>XoB pb ts k full hk hT.len
 have hl:=hT.len
 have hv:=hT.vt k hk
 rw [Xtz,←Xvo]
 unfold Tok.av at hNm
 have hNm':=Lib.hid hNm
 clear hNm
 unfold jc
 refine XbE Tryz.func124 rfl ?_
 simp only [Tryz.ntmps124,Xyr,Xyu,Xyv,Xyw,Xyz,Xyy,Nat.reduceAdd,Nat.reduceSub]
 (repeat' (first|with_reducible (first|refine XaH ?_|refine Xal ?_|refine Xat ?_|refine Xac ?_|refine Xae ?_)|((apply Xar rfl);(case h=>((try (intro (hp:(_:Bool)=true);((try simp only [Bool.and_eq_true,Bool.not_eq_true',Bool.not_eq_true] at hp);(try simp only [hp,wte]);(try simp only [whn] at hp))));(first|(apply Xag 0 rfl;(exact XaW _ rfl))|(apply Xag 4 rfl;(exact Xbl _ rfl (by first|exact .inl ⟨_,rfl⟩|fail)))|(apply Xag 5 rfl;(exact Xaq _ _ _ _ _ _ rfl rfl Xbc.out))|(apply Xag 6 rfl;(exact XaK _ _ _ _ _ _ _ _ rfl rfl Xbt.out XaI.out (by first|exact Xyn rfl|fail) (by first|exact Xyn rfl|fail)))|(apply XbI;(case hs=>(intro _ _ h;cases h));(case hx=>rfl);(case hrun=>(intro w;simp [wtb,AV.val,go_sem];(try go_bits);rfl))))));(case hT=>((try simp only [wtn,Xys,Xyp,Xyq,Xyt,Xyx,Nat.reduceAdd,Nat.reduceMul,Nat.reduceSub,↓reduceIte,Nat.reduceEqDiff]);rfl)))|(refine Xav rfl ?_;refine Xas 102 Tryz.f102 [_] _ _ _ _ rfl rfl Tryz.func102 (by decide) rfl (Xyo _) (VwL.refl _ _) (hNm'.out _) ?_ ?_;(case' refine_1=>(rintro _ _ ⟨rfl,rfl,hp,hk1⟩;(apply Xap;(case hT=>((try simp only [wtn,Xys,Xyp,Xyq,Xyt,Xyx,Nat.reduceAdd,Nat.reduceMul,Nat.reduceSub,↓reduceIte,Nat.reduceEqDiff]);rfl));(case hH=>((try simp only [wtn,Xys,Xyp,Xyq,Xyt,Xyx,Nat.reduceAdd,Nat.reduceMul,Nat.reduceSub,↓reduceIte,Nat.reduceEqDiff]);rfl)))));(case' refine_2=>(rintro _ _ ⟨f,hp,rfl⟩)))|(refine Xab rfl ?_;((first|(refine XaQ 14 rfl ?_;(refine Xbf _ _ rfl XbT.out rfl (fun b=>?_)))|(refine XaQ 16 rfl ?_;(refine Xaw _ _ _ _ _ _ _ rfl rfl Xbt.out Xa1.out (by first|rfl|fail) (by first|exact Xyn rfl|fail) ?_)));apply Xap;(case hT=>((try simp only [wtn,Xys,Xyp,Xyq,Xyt,Xyx,Nat.reduceAdd,Nat.reduceMul,Nat.reduceSub,↓reduceIte,Nat.reduceEqDiff]);rfl));(case hH=>((try simp only [wtn,Xys,Xyp,Xyq,Xyt,Xyx,Nat.reduceAdd,Nat.reduceMul,Nat.reduceSub,↓reduceIte,Nat.reduceEqDiff]);rfl))))|fail))
 ·(repeat (with_reducible first|refine Xae ?_|fail));refine Xan _ _ (Xaj.mk' [] _ (Xyo _) (Xak.refl _ _) VwL.nil) ?_
  exact ⟨f,by rw [hp];rfl,rfl⟩
 have hk2:=hv (by omega)
 refine Xg7 mixed ?_ ?_
 ·decide +kernel
 (repeat' (first|with_reducible (first|refine Xal ?_|refine Xa4 ?_|refine XiI ?_|refine Xac ?_|refine Xae ?_)|(refine XaR _ rfl (fun h=>?_) (fun h=>?_)<;>((try (simp only [whn] at h));skip))|((first|apply Xar rfl|apply XnP rfl);(case h=>((try (intro (hp:(_:Bool)=true);((try simp only [Bool.and_eq_true,Bool.not_eq_true',Bool.not_eq_true] at hp);(try simp only [hp,wte]);(try simp only [whn] at hp))));(first|(apply Xag 0 rfl;(exact XaW _ rfl))|(apply Xag 4 rfl;(exact Xbl _ rfl (by first|exact .inl ⟨_,rfl⟩|fail)))|(apply Xag 5 rfl;(exact Xaq _ _ _ _ _ _ rfl rfl Xbc.out))|(apply Xag 6 rfl;(exact XaK _ _ _ _ _ _ _ _ rfl rfl Xbt.out XaI.out (by first|exact Xyn rfl|fail) (by first|exact Xyn rfl|fail)))|(apply Xag 11 rfl;(exact Xb4 106 Tryz.f106 _ _ rfl rfl Tryz.func106 (by decide) rfl (by (repeat' (first|exact VwL.nil|(refine VwL.cons ?_ ?_)|exact Vw.refl _|exact Vw.row (List.Mem.tail _ (List.Mem.tail _ (List.Mem.tail _ (List.Mem.head _)))) (VwL.refl _ _)|fail));done) (Xsp j.needs ts[k].text hj))))));(case hT=>((try simp only [wtn,Xys,Xyp,Xyq,Xyt,Xyx,Nat.reduceAdd,Nat.reduceMul,Nat.reduceSub,↓reduceIte,Nat.reduceEqDiff]);rfl)))|(refine Xav rfl ?_;refine Xas 101 Tryz.f101 [] _ _ _ _ rfl rfl Tryz.func101 (by decide) rfl (Xyo _) (VwL.refl _ _) (XdC _ ts[k]) ?_ ?_;(case refine_1=>(rintro _ _ ⟨⟩));(case' refine_2=>(rintro _ _ ⟨rfl,rfl⟩)))|fail))
 ·(repeat (with_reducible first|refine Xae ?_|fail));refine Xan _ _ (Xaj.mk' [] _ (Xyo _) (Xak.refl _ _) VwL.nil) ?_
  exact ⟨_,by rw [hp];exact if_pos h,rfl⟩
 refine XaE mixed [11] [.box b [.x (.int .i64 ts[k].kind),.x (.string (bs ts[k].text)),.x (.int .i64 (ts[k].line:Nat)),.x (.int .i64 (ts[k].col:Nat))],.box jb _] [.box pb _,.row aN _ _ _ _ _] (by (repeat' (first|exact Xyo _|refine XyE _ ?_|refine (XyB (l₁:=[_])).trans (XyE _ ?_)|fail))) ?_
 (first|(apply Xa2 0 rfl rfl (by kernel_rfl) (fun _ _ _ _ hp=>hp);(case h=>(exact Xbq _ rfl)))|fail);(apply Xaf;(case hT=>((try simp only [wtn,Xys,Xyp,Xyq,Xyt,Xyx,Nat.reduceAdd,Nat.reduceMul,Nat.reduceSub,↓reduceIte,Nat.reduceEqDiff]);rfl));(case hH=>rfl));(first|(apply Xa2 1 rfl rfl (by kernel_rfl) (fun _ _ _ _ hp=>hp);(case h=>(exact Xbq _ rfl)))|fail);(apply Xaf;(case hT=>((try simp only [wtn,Xys,Xyp,Xyq,Xyt,Xyx,Nat.reduceAdd,Nat.reduceMul,Nat.reduceSub,↓reduceIte,Nat.reduceEqDiff]);rfl));(case hH=>rfl));(first|(apply Xa2 2 rfl rfl (by kernel_rfl) (fun _ _ _ _ hp=>hp);(case h=>(exact XdU _ _ _ rfl rfl)))|fail);(apply Xaf;(case hT=>((try simp only [wtn,Xys,Xyp,Xyq,Xyt,Xyx,Nat.reduceAdd,Nat.reduceMul,Nat.reduceSub,↓reduceIte,Nat.reduceEqDiff]);rfl));(case hH=>rfl));(first|(apply Xa2 3 rfl rfl (by kernel_rfl) (fun _ _ _ _ hp=>hp);(case h=>(exact XbC _ _ _ _ _ _ rfl rfl Xbc.out)))|fail);(apply Xaf;(case hT=>((try simp only [wtn,Xys,Xyp,Xyq,Xyt,Xyx,Nat.reduceAdd,Nat.reduceMul,Nat.reduceSub,↓reduceIte,Nat.reduceEqDiff]);rfl));(case hH=>rfl));(first|refine XaS 4 rfl rfl (by kernel_rfl) (fun _ _ _ _ hp=>hp) _ _ _ _ _ _ _ _ rfl rfl Xbt.out XaI.out (by first|exact Xyn rfl|fail) (by first|exact Xyn rfl|fail) ?_|fail);(apply Xaf;(case hT=>((try simp only [wtn,Xys,Xyp,Xyq,Xyt,Xyx,Nat.reduceAdd,Nat.reduceMul,Nat.reduceSub,↓reduceIte,Nat.reduceEqDiff]);rfl));(case hH=>rfl));(first|(apply Xa2 5 rfl rfl (by kernel_rfl) (fun _ _ _ _ hp=>hp);(case h=>(exact XbC _ _ _ _ _ _ rfl rfl Xbc.out)))|fail);(apply Xaf;(case hT=>((try simp only [wtn,Xys,Xyp,Xyq,Xyt,Xyx,Nat.reduceAdd,Nat.reduceMul,Nat.reduceSub,↓reduceIte,Nat.reduceEqDiff]);rfl));(case hH=>rfl));(first|refine XaS 6 rfl rfl (by kernel_rfl) (fun _ _ _ _ hp=>hp) _ _ _ _ _ _ _ _ rfl rfl Xbt.out XaI.out (by first|exact Xyn rfl|fail) (by first|exact Xyn rfl|fail) ?_|fail);(apply Xaf;(case hT=>((try simp only [wtn,Xys,Xyp,Xyq,Xyt,Xyx,Nat.reduceAdd,Nat.reduceMul,Nat.reduceSub,↓reduceIte,Nat.reduceEqDiff]);rfl));(case hH=>rfl))
 (refine Xba 7 (by decide +kernel) rfl rfl ?_;(first|((refine XaQ 17 rfl ?_;(refine Xbx _ _ _ _ _ _ _ _ rfl XbY.out (by first|rfl|fail) rfl (by decide) rfl (fun b=>?_)));apply Xaf;(case hT=>((try simp only [wtn,Xys,Xyp,Xyq,Xyt,Xyx,Nat.reduceAdd,Nat.reduceMul,Nat.reduceSub,↓reduceIte,Nat.reduceEqDiff]);rfl));(case hH=>((try simp only [wtn,Xys,Xyp,Xyq,Xyt,Xyx,Nat.reduceAdd,Nat.reduceMul,Nat.reduceSub,↓reduceIte,Nat.reduceEqDiff]);rfl)))|fail))
 (refine Xba 8 (by decide +kernel) rfl rfl ?_;(first|((refine XaQ 13 rfl ?_;(refine Xcy _ _ _ _ _ _ _ _ _ _ _ _ _ _ rfl rfl XfM.out (Src.row _ rfl XfM.out) XbY.out (by first|rfl|fail) (Xqs _ _ (by omega) (by decide)) (fun ad cap=>?_)));apply Xaf;(case hT=>((try simp only [wtn,Xys,Xyp,Xyq,Xyt,Xyx,Nat.reduceAdd,Nat.reduceMul,Nat.reduceSub,↓reduceIte,Nat.reduceEqDiff]);rfl));(case hH=>((try simp only [wtn,Xys,Xyp,Xyq,Xyt,Xyx,Nat.reduceAdd,Nat.reduceMul,Nat.reduceSub,↓reduceIte,Nat.reduceEqDiff]);rfl)))|fail))
 (repeat ((first|refine Xba 9 (by decide +kernel) rfl rfl ?_|refine Xba 10 (by decide +kernel) rfl rfl ?_|fail);(first|(apply Xbi;(case h=>(first|(apply Xag 4 rfl;(exact Xbl _ rfl (by first|exact .inl ⟨_,rfl⟩|fail)))|(apply Xag 5 rfl;(exact Xaq _ _ _ _ _ _ rfl rfl Xbc.out))));(apply Xaf;(case hT=>((try simp only [wtn,Xys,Xyp,Xyq,Xyt,Xyx,Nat.reduceAdd,Nat.reduceMul,Nat.reduceSub,↓reduceIte,Nat.reduceEqDiff]);rfl));(case hH=>rfl)))|fail)))
 refine XaG (by decide +kernel) ?_
 refine Xai rfl (by simp only [Xyz,Xyy];rfl) ?_
 (refine XbN 11 (by decide +kernel) rfl rfl ?_;(first|((refine XaQ 16 rfl ?_;(refine Xaw _ _ _ _ _ _ _ rfl rfl Xbt.out Xa1.out (by first|rfl|fail) (by first|exact Xyn rfl|fail) ?_));apply Xai;(case hT=>((try simp only [wtn,Xys,Xyp,Xyq,Xyt,Xyx,Nat.reduceAdd,Nat.reduceMul,Nat.reduceSub,↓reduceIte,Nat.reduceEqDiff]);rfl));(case hH=>((try simp only [wtn,Xys,Xyp,Xyq,Xyt,Xyx,Nat.reduceAdd,Nat.reduceMul,Nat.reduceSub,↓reduceIte,Nat.reduceEqDiff]);rfl)))|fail))
 refine Xao (by decide +kernel) ?_
 (repeat' (first|with_reducible (refine XiI ?_)|fail))
 refine XaZ _ _ (Xfa rfl (Xaj.mk' [.box _ [.x (.int .i64 ts[k].kind),.x (.string (bs ts[k].text)),.x (.int .i64 (ts[k].line:Nat)),.x (.int .i64 (ts[k].col:Nat))],.row (some _) 1 1 _ _ _] [.box pb _,.box jb _,.row ad _ cap _ _ _] (by (repeat' (first|exact Xyo _|refine XyE _ ?_|refine (XyB (l₁:=[_])).trans (XyE _ ?_)|fail))) (Xak.refl _ _) VwL.nil)) ⟨ts[k].text,ad,cap,rfl,?_,by rw [hp];exact if_neg h,hk2⟩
 simp only [Xsn,XyA,Xyr,Xyu];rfl
def Xwi (ts:List Tok) (k:Nat) (out:List (Int × Int)) (t:Tok):Except Flt (Int × Int):=if 5≤out.length then .error (flt 1 t) else if Xuz t.text=0 then .error (flt 4 t) else (XeA ts (k+1)).map fun n=>(Xuz t.text,n)
theorem XtA (ts:List Tok) (k:Nat) (out:List (Int × Int)) (hk:k < ts.length) (hS:ts[k].text.length≤8192):Xfj ts k out=Xdg ts k 1 >>= Xwi ts k out:=by
 unfold Xfj Xwi
 rw [XeO]
 cases h:Xdg ts k 1 with
 | error f=>rfl
 | ok t=>
   have e:t=ts[k]:=by
    unfold Xdg at h
    rw [XaN hk] at h
    split at h
    ·cases h;rfl
    ·cases h
   simp only [bind,Except.bind]
   rw [if_neg (by rw [e];omega)]
   cases XeA ts (k+1)<;>rfl
theorem Xwj (pb jb:Nat) (ts:List Tok) (k:Nat) (j:JF) (aE:Option Addr) (cE:Nat) (aN:Option Addr) (cN:Nat) (aL:Option Addr) (cL:Nat) (hk:k < ts.length) (hT:XmX ts) (hj:j.ladder.length≤1000000) :
  XcH Tryz.prog 129 [.box pb (tc ts k),.box jb (jc j aE cE aN cN aL cL),.row aL j.ladder.length cL 100 2 (ra j.ladder)] [.x (.pointer (some ⟨pb,0,none⟩)),.x (.pointer (some ⟨jb,0,none⟩))]
   (fun r H'=>∃x a c,r=.x (.tuple #[])∧H'=[.box pb (tc ts (k+2)),.box jb (jc { j with ladder:=j.ladder++[x] } aE cE aN cN a c),.row a (j.ladder++[x]).length c 100 2 (ra (j.ladder++[x]))]∧Xfj ts k j.ladder=.ok x∧k+2 < ts.length)
   (fun v _=>∃f,Xfj ts k j.ladder=.error f∧v=fv f):=by
 have hTk:=XfC pb ts k 1 hk hT.len
 have hl:=hT.len
 have hv:=hT.vt k hk
 have hS:=hT.short ts[k] (List.getElem_mem hk)
 rw [XtA ts k _ hk hS]
 unfold Tok.av at hTk
 unfold jc
 refine XbE Tryz.func129 rfl ?_
 simp only [Tryz.ntmps129,Xyr,Xyu,Xyv,Xyw,Xyz,Xyy,Nat.reduceAdd,Nat.reduceSub]
 (repeat' (first|with_reducible (first|refine XaH ?_|refine Xal ?_|refine Xa4 ?_|refine Xat ?_|refine Xac ?_|refine Xae ?_)|(refine XaR _ rfl (fun h=>?_) (fun h=>?_)<;>((try (simp only [whn] at h));skip))|((apply Xar rfl);(case h=>((try (intro (hp:(_:Bool)=true);((try simp only [Bool.and_eq_true,Bool.not_eq_true',Bool.not_eq_true] at hp);(try simp only [hp,wte]);(try simp only [whn] at hp))));(first|(apply Xag 0 rfl;(first|exact XaW _ rfl|exact Xbo _ rfl))|(apply Xag 4 rfl;(exact Xbl _ rfl (by first|exact .inl ⟨_,rfl⟩|fail)))|(apply Xag 5 rfl;(exact Xaq _ _ _ _ _ _ rfl rfl Xbc.out))|(apply Xag 6 rfl;(exact XaK _ _ _ _ _ _ _ _ rfl rfl Xbt.out XaI.out (by first|exact Xyn rfl|fail) (by first|exact Xyn rfl|fail)))|(apply Xag 11 rfl;(exact Xby 158 Tryz.f158 _ _ rfl rfl Tryz.func158 (by decide) rfl (VwL.refl _ _) (Xn7 _)))|(apply XbI;(case hs=>(intro _ _ h;cases h));(case hx=>rfl);(case hrun=>(intro w;simp [wtb,AV.val,go_sem];(try go_bits);rfl))))));(case hT=>((try simp only [wtn,Xys,Xyp,Xyq,Xyt,Xyx,Nat.reduceAdd,Nat.reduceMul,Nat.reduceSub,↓reduceIte,Nat.reduceEqDiff]);rfl)))|(refine Xav rfl ?_;refine Xas 100 Tryz.f100 [_] _ _ _ _ rfl rfl Tryz.func100 (by decide) rfl (Xyo _) (VwL.refl _ _) (hTk) ?_ ?_;(case' refine_1=>(rintro _ _ ⟨rfl,rfl,hp,hk1⟩;(apply Xap;(case hT=>((try simp only [wtn,Xys,Xyp,Xyq,Xyt,Xyx,Nat.reduceAdd,Nat.reduceMul,Nat.reduceSub,↓reduceIte,Nat.reduceEqDiff]);rfl));(case hH=>((try simp only [wtn,Xys,Xyp,Xyq,Xyt,Xyx,Nat.reduceAdd,Nat.reduceMul,Nat.reduceSub,↓reduceIte,Nat.reduceEqDiff]);rfl)))));(case' refine_2=>(rintro _ _ ⟨f,hp,rfl⟩)))|(refine Xav rfl ?_;refine Xas 101 Tryz.f101 [] _ _ _ _ rfl rfl Tryz.func101 (by decide) rfl (Xyo _) (VwL.refl _ _) (XdC _ ts[k]) ?_ ?_;(case refine_1=>(rintro _ _ ⟨⟩));(case' refine_2=>(rintro _ _ ⟨rfl,rfl⟩)))|(refine Xab rfl ?_;((first|(refine XaQ 14 rfl ?_;(refine Xbf _ _ rfl XbT.out rfl (fun b=>?_)))|(refine XaQ 16 rfl ?_;(refine Xaw _ _ _ _ _ _ _ rfl rfl Xbt.out Xa1.out (by first|rfl|fail) (by first|exact Xyn rfl|fail) ?_)));apply Xap;(case hT=>((try simp only [wtn,Xys,Xyp,Xyq,Xyt,Xyx,Nat.reduceAdd,Nat.reduceMul,Nat.reduceSub,↓reduceIte,Nat.reduceEqDiff]);rfl));(case hH=>((try simp only [wtn,Xys,Xyp,Xyq,Xyt,Xyx,Nat.reduceAdd,Nat.reduceMul,Nat.reduceSub,↓reduceIte,Nat.reduceEqDiff]);rfl))))|fail))
 ·(repeat (with_reducible first|refine Xae ?_|fail));refine Xan _ _ (Xaj.mk' [] _ (Xyo _) (Xak.refl _ _) VwL.nil) ?_
  exact ⟨f,by rw [hp];rfl,rfl⟩
 ·(repeat (with_reducible first|refine Xae ?_|fail));refine Xan _ _ (Xaj.mk' [] _ (Xyo _) (Xak.refl _ _) VwL.nil) ?_
  exact ⟨_,by rw [hp];exact if_pos (by omega),rfl⟩
 ·(repeat (with_reducible first|refine Xae ?_|fail));refine Xan _ _ (Xaj.mk' [] _ (Xyo _) (Xak.refl _ _) VwL.nil) ?_
  exact ⟨_,by rw [hp];exact (if_neg (by omega)).trans (if_pos h),rfl⟩
 have hk2:=hv (by omega)
 have hN:=XeW pb ts (k+1) hk2 hT
 have hv2:=hT.vt (k+1) hk2
 refine XaE mixed [13] [.box b [.x (.int .i64 ts[k].kind),.x (.string (bs ts[k].text)),.x (.int .i64 (ts[k].line:Nat)),.x (.int .i64 (ts[k].col:Nat))],.box jb _] [.box pb _,.row aL _ _ _ _ _] (by (repeat' (first|exact Xyo _|refine XyE _ ?_|refine (XyB (l₁:=[_])).trans (XyE _ ?_)|fail))) ?_
 (first|(apply Xa2 0 rfl rfl (by kernel_rfl) (fun _ _ _ _ hp=>hp);(case h=>(exact Xbq _ rfl)))|fail);(apply Xaf;(case hT=>((try simp only [wtn,Xys,Xyp,Xyq,Xyt,Xyx,Nat.reduceAdd,Nat.reduceMul,Nat.reduceSub,↓reduceIte,Nat.reduceEqDiff]);rfl));(case hH=>rfl));(first|(apply Xa2 1 rfl rfl (by kernel_rfl) (fun _ _ _ _ hp=>hp);(case h=>(exact Xbq _ rfl)))|fail);(apply Xaf;(case hT=>((try simp only [wtn,Xys,Xyp,Xyq,Xyt,Xyx,Nat.reduceAdd,Nat.reduceMul,Nat.reduceSub,↓reduceIte,Nat.reduceEqDiff]);rfl));(case hH=>rfl));(first|(apply Xa2 2 rfl rfl (by kernel_rfl) (fun _ _ _ _ hp=>hp);(case h=>(exact XdU _ _ _ rfl rfl)))|fail);(apply Xaf;(case hT=>((try simp only [wtn,Xys,Xyp,Xyq,Xyt,Xyx,Nat.reduceAdd,Nat.reduceMul,Nat.reduceSub,↓reduceIte,Nat.reduceEqDiff]);rfl));(case hH=>rfl));(first|(apply Xa2 3 rfl rfl (by kernel_rfl) (fun _ _ _ _ hp=>hp);(case h=>(exact XbC _ _ _ _ _ _ rfl rfl Xbc.out)))|fail);(apply Xaf;(case hT=>((try simp only [wtn,Xys,Xyp,Xyq,Xyt,Xyx,Nat.reduceAdd,Nat.reduceMul,Nat.reduceSub,↓reduceIte,Nat.reduceEqDiff]);rfl));(case hH=>rfl));(first|refine XaS 4 rfl rfl (by kernel_rfl) (fun _ _ _ _ hp=>hp) _ _ _ _ _ _ _ _ rfl rfl Xbt.out XaI.out (by first|exact Xyn rfl|fail) (by first|exact Xyn rfl|fail) ?_|fail);(apply Xaf;(case hT=>((try simp only [wtn,Xys,Xyp,Xyq,Xyt,Xyx,Nat.reduceAdd,Nat.reduceMul,Nat.reduceSub,↓reduceIte,Nat.reduceEqDiff]);rfl));(case hH=>rfl));(first|(apply Xa2 5 rfl rfl (by kernel_rfl) (fun _ _ _ _ hp=>hp);(case h=>(exact Xbq _ rfl)))|fail);(apply Xaf;(case hT=>((try simp only [wtn,Xys,Xyp,Xyq,Xyt,Xyx,Nat.reduceAdd,Nat.reduceMul,Nat.reduceSub,↓reduceIte,Nat.reduceEqDiff]);rfl));(case hH=>rfl));(first|(apply Xa2 6 rfl rfl (by kernel_rfl) (fun _ _ _ _ hp=>hp);(case h=>(exact Xbq _ rfl)))|fail);(apply Xaf;(case hT=>((try simp only [wtn,Xys,Xyp,Xyq,Xyt,Xyx,Nat.reduceAdd,Nat.reduceMul,Nat.reduceSub,↓reduceIte,Nat.reduceEqDiff]);rfl));(case hH=>rfl))
 (first|(refine Xde 7 (by decide +kernel) rfl rfl ?_;refine Xas 126 Tryz.f126 [_] _ _ _ _ rfl rfl Tryz.func126 (by decide) rfl (Xyo _) (VwL.refl _ _) (hN) ?_ ?_;(case' refine_1=>(rintro _ _ ⟨n,rfl,rfl,hn,hk3⟩;(apply Xaf;(case hT=>((try simp only [wtn,Xys,Xyp,Xyq,Xyt,Xyx,Nat.reduceAdd,Nat.reduceMul,Nat.reduceSub,↓reduceIte,Nat.reduceEqDiff]);rfl));(case hH=>((try simp only [wtn,Xys,Xyp,Xyq,Xyt,Xyx,Nat.reduceAdd,Nat.reduceMul,Nat.reduceSub,↓reduceIte,Nat.reduceEqDiff]);rfl)))));(case' refine_2=>(rintro _ _ ⟨f,hn,rfl⟩)))|fail)
 ·(repeat (with_reducible first|refine Xae ?_|fail));refine Xan _ _ (Xaj.mk' [] _ (Xyo _) (Xak.refl _ _) VwL.nil) ?_
  exact ⟨f,by rw [hp];exact (if_neg (by omega)).trans ((if_neg (by assumption)).trans (by rw [hn];rfl)),rfl⟩
 (refine Xba 8 (by decide +kernel) rfl rfl ?_;(first|(apply Xbi;(case h=>(apply Xag 10 rfl;(exact XbS _ _ _ _ _ rfl HPl.out (by first|rfl|fail) rfl)));(apply Xaf;(case hT=>((try simp only [wtn,Xys,Xyp,Xyq,Xyt,Xyx,Nat.reduceAdd,Nat.reduceMul,Nat.reduceSub,↓reduceIte,Nat.reduceEqDiff]);rfl));(case hH=>rfl)))|fail))
 (refine Xba 9 (by decide +kernel) rfl rfl ?_;(first|((refine XaQ 17 rfl ?_;(refine Xbx _ _ _ _ _ _ _ _ rfl XbY.out (by first|rfl|fail) rfl (by decide) rfl (fun b=>?_)));apply Xaf;(case hT=>((try simp only [wtn,Xys,Xyp,Xyq,Xyt,Xyx,Nat.reduceAdd,Nat.reduceMul,Nat.reduceSub,↓reduceIte,Nat.reduceEqDiff]);rfl));(case hH=>((try simp only [wtn,Xys,Xyp,Xyq,Xyt,Xyx,Nat.reduceAdd,Nat.reduceMul,Nat.reduceSub,↓reduceIte,Nat.reduceEqDiff]);rfl)))|fail))
 (refine Xba 10 (by decide +kernel) rfl rfl ?_;(first|((refine XaQ 13 rfl ?_;(refine Xcy _ _ _ _ _ _ _ _ _ _ _ _ _ _ rfl rfl XfM.out (Src.row _ rfl XfM.out) XbY.out (by first|rfl|fail) (Xqs _ _ (by omega) (by decide)) (fun ad cap=>?_)));apply Xaf;(case hT=>((try simp only [wtn,Xys,Xyp,Xyq,Xyt,Xyx,Nat.reduceAdd,Nat.reduceMul,Nat.reduceSub,↓reduceIte,Nat.reduceEqDiff]);rfl));(case hH=>((try simp only [wtn,Xys,Xyp,Xyq,Xyt,Xyx,Nat.reduceAdd,Nat.reduceMul,Nat.reduceSub,↓reduceIte,Nat.reduceEqDiff]);rfl)))|fail))
 (repeat ((first|refine Xba 11 (by decide +kernel) rfl rfl ?_|refine Xba 12 (by decide +kernel) rfl rfl ?_|fail);(first|(apply Xbi;(case h=>(first|(apply Xag 4 rfl;(exact Xbl _ rfl (by first|exact .inl ⟨_,rfl⟩|fail)))|(apply Xag 5 rfl;(exact Xaq _ _ _ _ _ _ rfl rfl Xbc.out))));(apply Xaf;(case hT=>((try simp only [wtn,Xys,Xyp,Xyq,Xyt,Xyx,Nat.reduceAdd,Nat.reduceMul,Nat.reduceSub,↓reduceIte,Nat.reduceEqDiff]);rfl));(case hH=>rfl)))|fail)))
 refine XaG (by decide +kernel) ?_
 refine Xai rfl (by simp only [Xyz,Xyy];rfl) ?_
 (refine XbN 13 (by decide +kernel) rfl rfl ?_;(first|((refine XaQ 16 rfl ?_;(refine Xaw _ _ _ _ _ _ _ rfl rfl Xbt.out Xa1.out (by first|rfl|fail) (by first|exact Xyn rfl|fail) ?_));apply Xai;(case hT=>((try simp only [wtn,Xys,Xyp,Xyq,Xyt,Xyx,Nat.reduceAdd,Nat.reduceMul,Nat.reduceSub,↓reduceIte,Nat.reduceEqDiff]);rfl));(case hH=>((try simp only [wtn,Xys,Xyp,Xyq,Xyt,Xyx,Nat.reduceAdd,Nat.reduceMul,Nat.reduceSub,↓reduceIte,Nat.reduceEqDiff]);rfl)))|fail))
 refine Xao (by decide +kernel) ?_
 (repeat' (first|with_reducible (refine XiI ?_)|fail))
 refine XaZ _ _ (Xfa rfl (Xaj.mk' [.box _ [.x (.int .i64 ts[k].kind),.x (.string (bs ts[k].text)),.x (.int .i64 (ts[k].line:Nat)),.x (.int .i64 (ts[k].col:Nat))],.row (some _) 1 1 _ _ _] [.box pb _,.box jb _,.row ad _ cap _ _ _] (by (repeat' (first|exact Xyo _|refine XyE _ ?_|refine (XyB (l₁:=[_])).trans (XyE _ ?_)|fail))) (Xak.refl _ _) VwL.nil)) ⟨(Xuz ts[k].text,n),ad,cap,rfl,?_,?_,?_⟩
 ·simp only [Xwb,XyA,Xyr,Xyu];rfl
 ·rw [hp]
  exact (if_neg (by omega)).trans ((if_neg (by assumption)).trans (by rw [hn];rfl))
 ·exact hv2 (by omega)
section
variable {P:Program} {Δ:List Deferred} {V O:Nat→Prop} {w0 w w':World} {B H H' D:List Hp} {T T':List AV} {a a':Act} {o:Oper} {K:List AV→List Hp→Prop}
def isX:AV→Bool|.x _=>true|_=>false
def Hp.exb:Hp→Bool|.box _ cells=>cells.all isX|.row _ _ _ _ _ cells=>cells.all isX|_=>false
theorem DenL.exX {F F':Nat→Prop} {l:List AV} {vs:List Value} (h:DenL F w l vs) (hx:l.all isX=true):DenL F' w l vs:=DenL.of h.len fun j av u h1 h2=>by
 have:=h.get' j av u h1 h2
 have hxa:=List.all_eq_true.1 hx av (List.mem_of_getElem? h1)
 cases av with
 | x v=>rw [Den] at this ⊢;exact this
 | _=>cases hxa
theorem XgS.exX {F F':Nat→Prop}:∀{h:Hp},h.exb=true→XgS F w h→XgS F' w h
 | .box ..,hx,⟨vals,h1,h2⟩=>⟨vals,h1.exX hx,h2⟩
 | .row ..,hx,⟨vals,h1,h2⟩=>⟨vals,h1.exX hx,h2⟩
 | .map ..,hx,_=>by simp [Hp.exb] at hx
 | .sen _,hx,_=>by simp [Hp.exb] at hx
theorem Xm7 {c:Operand} {args:Array Operand} {tys:Array TypeId} {fs cs:Array Value} (f:FuncId) (fn:Func) (H1 R:List Hp) (avs:List AV) (Qf:AV→List Hp→Prop) (ho:o.op=.call { callee:=.value c,args:=args,argTypes:=tys }) (hc:ev T c=.x (.func (.func f) fs cs))
  (hf:P.funcs[f]?=some fn) (hn:fn.name≠ "runtime.NumGoroutine") (hb:fn.body.isSome=true) (hp:H.Perm (H1++R)) (hargs:VwL R (fs.toList.map .x++args.toList.map (ev T)++cs.toList.map .x) avs) (hS:Xay P f H1 avs Qf) (hex:∀r H',Qf r H'→isX r=true∧∀h∈H',h.exb=true)
  (hK:∀r H',Qf r H'→K (Xa9 T o.dst r) (H'++R)):Stp P o T H K:=by
 intro Δ V O w0 a w Kc Qc r hKc
 have r1:=r.perm hp
 have hap:=List.pairwise_append.1 r1.hok.apart
 have hsub:∀k,FB V H1 k→FB V (H1++R) k:=fun k hk=>hk.imp id fun ⟨x,hx,e⟩=>⟨x,by simp [hx],e⟩
 have hV:∀k,V k→k < w.heap.size:=fun k hk=>Nat.lt_of_lt_of_le (r.vlt k hk) r.fr.size
 have hH1:HOk V w H1:=⟨fun x hx=>(r1.hok.ok x (by simp [hx])).weak hsub,hap.1,fun x hx k hk=>r1.hok.lt x (by simp [hx]) k hk⟩
 have hd:DenL (FB V H1) w avs (fs.toList++args.toList.map a.eval++cs.toList):=hargs.den hsub (fun h hh=>⟨r1.hok.ok h (by simp [hh]),fun k e hk=>by
  rcases hk with hk|⟨x,hx,e'⟩
  ·exact (r1.hok.lt h (by simp [hh]) k e).2 hk
  ·exact hap.2.2 x hx h hh k e' e⟩) _ ((DenL.exact.app (XfS r1 args.toList)).app DenL.exact)
 refine Xea ho (r.evx hc) hf hn hb (vs:=(fs.toList++args.toList.map a.eval++cs.toList).toArray) (by apply Array.toList_inj.1;simp) ?_
 refine (hS V w _ hV hH1 hd (r1.gb.mono fun k ⟨x,hx,e⟩=>⟨x,by simp [hx],e⟩)).mono ?_
 rintro e w' ⟨res,H',v,hq,rfl,hdv,hok',hfr,hown⟩
 obtain ⟨hrx,hhx⟩:=hex res H' hq
 have hok2:HOk (FB V R) w' H':=⟨fun x hx=>(hok'.ok x hx).exX (hhx x hx),hok'.apart,fun x hx k hk=>⟨(hok'.lt x hx k hk).1,fun hv=>by
  rcases hv with hv|⟨y,hy,e⟩
  ·exact (hok'.lt x hx k hk).2 hv
  ·rcases hown x hx k hk with ⟨z,hz,e'⟩|h
   ·exact hap.2.2 z hz y hy k e' e
   ·have:=(r1.hok.lt y (by simp [hy]) k e).1;omega⟩⟩
 refine ⟨v,rfl,hKc _ _ _ _ (hK res H' hq) ((r1.called hok2 hfr hown).1.put _ ?_)⟩
 cases res with
 | x u=>rw [Den] at hdv ⊢;exact hdv
 | _=>cases hrx
end
end Go.Proofs.YtdlblokjfoggpaaGreatDoor
