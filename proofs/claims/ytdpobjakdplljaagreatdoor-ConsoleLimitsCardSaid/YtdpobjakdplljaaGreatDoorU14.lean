import Derived.Test.YtdpobjakdplljaaGreatDoorU11
import Derived.Shelf.RegionOpenPlain
import Derived.Test.YtdpobjakdplljaaGreatDoorU10
import Derived.RangeFuncIn
import Derived.RangeFuncRecord
import Derived.RangeFuncCalls
import Derived.TacticsIn
import Derived.CallsIn
import Derived.OrdersIn
/- The reference of scripts: forms. -/
set_option linter.unusedSimpArgs false
set_option linter.unusedVariables false
set_option maxRecDepth 100000
set_option maxHeartbeats 8000000
namespace Go.Proofs.YtdpobjakdplljaaGreatDoor
open Go.RowKit Go.Shelf
theorem XnM (w:World):Calls Tryz.prog 57 #[.int .i64 1] w fun e w'=>e=.returned (.tuple #[.string (bs (Xbl.getD 0 [])),.string (bs (Xbj.getD 0 []))])∧Ext w w':=by
 have hmx:=mixed
 go_enter Tryz.func57,Tryz.ntmps57
 go_wp2
 go_region_o
 all_goals (go_wp2;go_ret2;exact ⟨rfl,(by repeat (first|(with_reducible exact Below.refl _ _)|(with_reducible refine Below.alloc ?_ (by first|omega|(simp;done)|fail) _)|(with_reducible refine Below.drew ?_)|fail))⟩)
theorem XnN (w:World):Calls Tryz.prog 57 #[.int .i64 2] w fun e w'=>e=.returned (.tuple #[.string (bs (Xbl.getD 1 [])),.string (bs (Xbj.getD 1 []))])∧Ext w w':=by
 have hmx:=mixed
 go_enter Tryz.func57,Tryz.ntmps57
 go_wp2
 go_region_o
 all_goals (go_wp2;go_ret2;exact ⟨rfl,(by repeat (first|(with_reducible exact Below.refl _ _)|(with_reducible refine Below.alloc ?_ (by first|omega|(simp;done)|fail) _)|(with_reducible refine Below.drew ?_)|fail))⟩)
theorem XnO (w:World):Calls Tryz.prog 57 #[.int .i64 3] w fun e w'=>e=.returned (.tuple #[.string (bs (Xbl.getD 2 [])),.string (bs (Xbj.getD 2 []))])∧Ext w w':=by
 have hmx:=mixed
 go_enter Tryz.func57,Tryz.ntmps57
 go_wp2
 go_region_o
 all_goals (go_wp2;go_ret2;exact ⟨rfl,(by repeat (first|(with_reducible exact Below.refl _ _)|(with_reducible refine Below.alloc ?_ (by first|omega|(simp;done)|fail) _)|(with_reducible refine Below.drew ?_)|fail))⟩)
theorem XnP (w:World):Calls Tryz.prog 57 #[.int .i64 4] w fun e w'=>e=.returned (.tuple #[.string (bs (Xbl.getD 3 [])),.string (bs (Xbj.getD 3 []))])∧Ext w w':=by
 have hmx:=mixed
 go_enter Tryz.func57,Tryz.ntmps57
 go_wp2
 go_region_o
 all_goals (go_wp2;go_ret2;exact ⟨rfl,(by repeat (first|(with_reducible exact Below.refl _ _)|(with_reducible refine Below.alloc ?_ (by first|omega|(simp;done)|fail) _)|(with_reducible refine Below.drew ?_)|fail))⟩)
theorem XnQ (w:World):Calls Tryz.prog 57 #[.int .i64 5] w fun e w'=>e=.returned (.tuple #[.string (bs (Xbl.getD 4 [])),.string (bs (Xbj.getD 4 []))])∧Ext w w':=by
 have hmx:=mixed
 go_enter Tryz.func57,Tryz.ntmps57
 go_wp2
 go_region_o
 all_goals (go_wp2;go_ret2;exact ⟨rfl,(by repeat (first|(with_reducible exact Below.refl _ _)|(with_reducible refine Below.alloc ?_ (by first|omega|(simp;done)|fail) _)|(with_reducible refine Below.drew ?_)|fail))⟩)
theorem XnR (w:World):Calls Tryz.prog 57 #[.int .i64 6] w fun e w'=>e=.returned (.tuple #[.string (bs (Xbl.getD 5 [])),.string (bs (Xbj.getD 5 []))])∧Ext w w':=by
 have hmx:=mixed
 go_enter Tryz.func57,Tryz.ntmps57
 go_wp2
 go_region_o
 all_goals (go_wp2;go_ret2;exact ⟨rfl,(by repeat (first|(with_reducible exact Below.refl _ _)|(with_reducible refine Below.alloc ?_ (by first|omega|(simp;done)|fail) _)|(with_reducible refine Below.drew ?_)|fail))⟩)
theorem XnS (w:World):Calls Tryz.prog 57 #[.int .i64 7] w fun e w'=>e=.returned (.tuple #[.string (bs (Xbl.getD 6 [])),.string (bs (Xbj.getD 6 []))])∧Ext w w':=by
 have hmx:=mixed
 go_enter Tryz.func57,Tryz.ntmps57
 go_wp2
 go_region_o
 all_goals (go_wp2;go_ret2;exact ⟨rfl,(by repeat (first|(with_reducible exact Below.refl _ _)|(with_reducible refine Below.alloc ?_ (by first|omega|(simp;done)|fail) _)|(with_reducible refine Below.drew ?_)|fail))⟩)
theorem XnT (w:World):Calls Tryz.prog 57 #[.int .i64 8] w fun e w'=>e=.returned (.tuple #[.string (bs (Xbl.getD 7 [])),.string (bs (Xbj.getD 7 []))])∧Ext w w':=by
 have hmx:=mixed
 go_enter Tryz.func57,Tryz.ntmps57
 go_wp2
 go_region_o
 all_goals (go_wp2;go_ret2;exact ⟨rfl,(by repeat (first|(with_reducible exact Below.refl _ _)|(with_reducible refine Below.alloc ?_ (by first|omega|(simp;done)|fail) _)|(with_reducible refine Below.drew ?_)|fail))⟩)
theorem XnU (w:World):Calls Tryz.prog 57 #[.int .i64 9] w fun e w'=>e=.returned (.tuple #[.string (bs (Xbl.getD 8 [])),.string (bs (Xbj.getD 8 []))])∧Ext w w':=by
 have hmx:=mixed
 go_enter Tryz.func57,Tryz.ntmps57
 go_wp2
 go_region_o
 all_goals (go_wp2;go_ret2;exact ⟨rfl,(by repeat (first|(with_reducible exact Below.refl _ _)|(with_reducible refine Below.alloc ?_ (by first|omega|(simp;done)|fail) _)|(with_reducible refine Below.drew ?_)|fail))⟩)
theorem Xl1 (w:World):Calls Tryz.prog 57 #[.int .i64 10] w fun e w'=>e=.returned (.tuple #[.string (bs (Xbl.getD 9 [])),.string (bs (Xbj.getD 9 []))])∧Ext w w':=by
 have hmx:=mixed
 go_enter Tryz.func57,Tryz.ntmps57
 go_wp2
 go_region_o
 all_goals (go_wp2;go_ret2;exact ⟨rfl,(by repeat (first|(with_reducible exact Below.refl _ _)|(with_reducible refine Below.alloc ?_ (by first|omega|(simp;done)|fail) _)|(with_reducible refine Below.drew ?_)|fail))⟩)
theorem Xl2 (w:World):Calls Tryz.prog 57 #[.int .i64 11] w fun e w'=>e=.returned (.tuple #[.string (bs (Xbl.getD 10 [])),.string (bs (Xbj.getD 10 []))])∧Ext w w':=by
 have hmx:=mixed
 go_enter Tryz.func57,Tryz.ntmps57
 go_wp2
 go_region_o
 all_goals (go_wp2;go_ret2;exact ⟨rfl,(by repeat (first|(with_reducible exact Below.refl _ _)|(with_reducible refine Below.alloc ?_ (by first|omega|(simp;done)|fail) _)|(with_reducible refine Below.drew ?_)|fail))⟩)
theorem Xl3 (w:World):Calls Tryz.prog 57 #[.int .i64 12] w fun e w'=>e=.returned (.tuple #[.string (bs (Xbl.getD 11 [])),.string (bs (Xbj.getD 11 []))])∧Ext w w':=by
 have hmx:=mixed
 go_enter Tryz.func57,Tryz.ntmps57
 go_wp2
 go_region_o
 all_goals (go_wp2;go_ret2;exact ⟨rfl,(by repeat (first|(with_reducible exact Below.refl _ _)|(with_reducible refine Below.alloc ?_ (by first|omega|(simp;done)|fail) _)|(with_reducible refine Below.drew ?_)|fail))⟩)
theorem Xl4 (w:World):Calls Tryz.prog 57 #[.int .i64 13] w fun e w'=>e=.returned (.tuple #[.string (bs (Xbl.getD 12 [])),.string (bs (Xbj.getD 12 []))])∧Ext w w':=by
 have hmx:=mixed
 go_enter Tryz.func57,Tryz.ntmps57
 go_wp2
 go_region_o
 all_goals (go_wp2;go_ret2;exact ⟨rfl,(by repeat (first|(with_reducible exact Below.refl _ _)|(with_reducible refine Below.alloc ?_ (by first|omega|(simp;done)|fail) _)|(with_reducible refine Below.drew ?_)|fail))⟩)
theorem Xl5 (w:World):Calls Tryz.prog 57 #[.int .i64 14] w fun e w'=>e=.returned (.tuple #[.string (bs (Xbl.getD 13 [])),.string (bs (Xbj.getD 13 []))])∧Ext w w':=by
 have hmx:=mixed
 go_enter Tryz.func57,Tryz.ntmps57
 go_wp2
 go_region_o
 all_goals (go_wp2;go_ret2;exact ⟨rfl,(by repeat (first|(with_reducible exact Below.refl _ _)|(with_reducible refine Below.alloc ?_ (by first|omega|(simp;done)|fail) _)|(with_reducible refine Below.drew ?_)|fail))⟩)
theorem Xm1 (k:Nat) (h1:1≤k) (h2:k≤14):Xbb Tryz.prog 57 [] [.x (.int .i64 k)] (fun r H'=>r=.tup [.x (.string (bs (Xbl.getD (k - 1) []))),.x (.string (bs (Xbj.getD (k - 1) [])))]∧H'=[]):=by
 have h:∀w,Calls Tryz.prog 57 #[.int .i64 k] w fun e w'=>e=.returned (.tuple #[.string (bs (Xbl.getD (k - 1) [])),.string (bs (Xbj.getD (k - 1) []))])∧Ext w w':=by
  intro w
  match k,h1,h2 with
  | 1,_,_=>exact XnM w
  | 2,_,_=>exact XnN w
  | 3,_,_=>exact XnO w
  | 4,_,_=>exact XnP w
  | 5,_,_=>exact XnQ w
  | 6,_,_=>exact XnR w
  | 7,_,_=>exact XnS w
  | 8,_,_=>exact XnT w
  | 9,_,_=>exact XnU w
  | 10,_,_=>exact Xl1 w
  | 11,_,_=>exact Xl2 w
  | 12,_,_=>exact Xl3 w
  | 13,_,_=>exact Xl4 w
  | 14,_,_=>exact Xl5 w
 refine (XbY (args:=[.int .i64 k]) h []).weak fun r H' ⟨h1,h2⟩=>?_
 subst h1 h2
 exact ⟨_,_,XaH.mk' [] [] (Xqv _) XaF.nil (VwL.cons (Vw.tupx (l:=[_,_]) (VwL.refl _ _)) VwL.nil),rfl,rfl⟩
open Go.RowKit
theorem Xnv {w:List UInt8} (h:∀i,i < 14→Xbl.getD i []≠w):Xj6 w=none:=by
 unfold Xj6
 rw [if_neg]
 intro hm
 obtain ⟨i,hi,e⟩:=List.mem_iff_getElem.1 hm
 exact h i hi (by rw [List.getD_eq_getElem?_getD,List.getElem?_eq_getElem hi];exact e)
theorem Xnu {w:List UInt8} {k:Nat} (hk:k < 14) (h:Xbl.getD k []=w):Xj6 w=some k:=by
 unfold Xj6
 subst h
 match k,hk with
 | 0,_=>decide
 | 1,_=>decide
 | 2,_=>decide
 | 3,_=>decide
 | 4,_=>decide
 | 5,_=>decide
 | 6,_=>decide
 | 7,_=>decide
 | 8,_=>decide
 | 9,_=>decide
 | 10,_=>decide
 | 11,_=>decide
 | 12,_=>decide
 | 13,_=>decide
def Xjh:Option EF→AV
 | some e=>.tup [.agg e.cells,.x (.bool true)]
 | none=>.tup [.x (.agg #[.int .i64 0,.string (bs []),.bool false,.int .i64 0,.slice none 0 0,.int .u64 0,.int .i64 0,.int .i64 0]),.x (.bool false)]
theorem Xhe (l:List Tok) (k:Nat) (h:k < l.length):(ta l).drop (k*4)=.x (.int .i64 l[k].kind) :: .x (.string (bs l[k].text)) :: .x (.int .i64 (l[k].line:Nat)) :: .x (.int .i64 (l[k].col:Nat)) :: ta (l.drop (k+1)):=Xov l k h
theorem XbO (v:Nat):(v:Int)+1=((v+1:Nat):Int):=by omega
theorem Xel (e:EF) (fs:List UInt8) (ts:List Tok) (i:Nat) (h1:i < fs.length) (h2:i < ts.length):Xc4 e (fs.drop i) (ts.drop i)=(XdS e fs[i] ts[i]).bind fun e=>Xc4 e (fs.drop (i+1)) (ts.drop (i+1)):=by
 rw [List.drop_eq_getElem_cons h1,List.drop_eq_getElem_cons h2];rfl
theorem XeS {l:List Tok} (h1:1≤l.length) (h:l[0].kind=1→∀i,i < 14→Xbl.getD i []≠l[0].text):XbZ l=none:=by
 cases l with
 | nil=>simp at h1
 | cons t r=>
   unfold XbZ
   simp only [List.getElem_cons_zero] at h ⊢
   by_cases hk:t.kind=1
   ·rw [if_neg (fun q=>q hk),Xnv (h hk)]
   ·rw [if_pos hk]
theorem Xdg {l:List Tok} (h1:1≤l.length) (hk:l[0].kind=1) {k:Nat} (h14:k < 14) (hw:Xbl.getD k []=l[0].text):XbZ l=if l.length≠(Xbj.getD k []).length+1 then none else Xc4 (ev0 (k+1:Nat)) (Xbj.getD k []) (l.drop 1):=by
 cases l with
 | nil=>simp at h1
 | cons t r=>
   unfold XbZ
   simp only [List.getElem_cons_zero] at hk hw ⊢
   rw [if_neg (fun q=>q hk),Xnu h14 hw]
   simp only [Xqy,List.drop_succ_cons,List.drop_zero]
   by_cases he:r.length=(Xbj.getD k []).length
   ·rw [if_neg (fun q=>q he),if_neg (by omega)]
   ·rw [if_pos he,if_pos (by omega)]
theorem Xki {k:Nat} (h:k < 14):(Xbj.getD k []).length≤2:=by
 match k,h with
 | 0,_=>decide
 | 1,_=>decide
 | 2,_=>decide
 | 3,_=>decide
 | 4,_=>decide
 | 5,_=>decide
 | 6,_=>decide
 | 7,_=>decide
 | 8,_=>decide
 | 9,_=>decide
 | 10,_=>decide
 | 11,_=>decide
 | 12,_=>decide
 | 13,_=>decide
theorem XnH (l:List Tok) (h1:1≤l.length) (hl:l.length≤3000) (hN:∀t∈l,Xlt t) (hlen:∀t∈l,t.text.length≤70000):Xbb Tryz.prog 28 [] [.sq l.length (ta l)] (fun r H'=>r=Xjh (XbZ l)∧H'=[]):=by
 have hN':=Lib.hid hN
 have hlen':=Lib.hid hlen
 clear hN hlen
 have h0:=Xhe l 0 (by omega)
 refine XaI Tryz.func28 rfl ?_
 simp only [Tryz.ntmps28,Xqy,XqB,XqC,XqD,XqG,XqF,Nat.reduceAdd,Nat.reduceSub]
 (repeat' (first|with_reducible (first|refine Xal ?_|refine Xac ?_|refine Xat ?_|refine Xae ?_|refine Xaa ?_)|((apply Xad rfl);(case h=>(apply Xab 0 rfl;(exact Xao _ rfl)));(case hT=>((try simp only [wtn]);rfl)))|(refine Xah rfl ?_;((refine Xav 14 rfl ?_;(refine XaE _ _ rfl Xbu.out rfl (fun b=>?_)));apply Xag;(case hT=>((try simp only [wtn]);rfl));(case hH=>((try simp only [wtn]);rfl))))|fail))
 revert b
 intro br
 apply Xba (S:=Nat) (fun k=>frm 59 [(0,.sq l.length (ta l)),(2,.x (.pointer (some ⟨br,0,none⟩))),(4,.x (.int .i64 k))]) (fun _=>[.box br [.x (.int .i64 0),.x (.string (bs [])),.x (.bool false),.x (.int .i64 0),.x (.slice none 0 0),.x (.int .u64 0),.x (.int .i64 0),.x (.int .i64 0)]]) (fun k=>1≤k∧k≤15∧(l[0].kind=1→∀i,i < k - 1→Xbl.getD i []≠l[0].text)) (fun k=>15 - k) 1
 case h0=>exact (XaH.mk' [] _ (Xqv _) (XaF.refl _ _) (by (repeat' (first|exact VwL.nil|(refine VwL.cons ?_ ?_)|exact Vw.refl _|exact Vw.top _|fail))))
 case hi=>exact ⟨Nat.le_refl _,by omega,fun _ i hi=>by omega⟩
 rintro k ⟨k1,k2,hw⟩
 have hw':=Lib.hid hw
 clear hw
 simp only [frm,XqC,XqD,Xqw,Xqx,XqJ,XqK]
 by_cases hk:k≤14
 ·have hf:=Xm1 k k1 hk
  have hfl:=Xki (k:=k - 1) (by omega)
  generalize hwd:Xbl.getD (k - 1) []=wd at hf
  generalize hfs:Xbj.getD (k - 1) []=fs at hf hfl
  have hwd':=Lib.hid hwd
  have hfs':=Lib.hid hfs
  clear hwd hfs
  (repeat' (first|with_reducible (first|refine Xal ?_|refine Xac ?_|refine Xat ?_|refine Xaq ?_|refine Xaw ?_|refine XaY ?_|refine Xae ?_|refine Xaa ?_|refine XaG ?_|refine Xam ?_|refine XaC ?_|refine Xak ?_)|(refine Xai _ rfl (fun h=>?_) (fun h=>?_)<;>((try (simp only [whn] at h));first|(exfalso;omega;done)|skip))|((first|apply Xad rfl|apply XaV _ _ rfl rfl rfl);(case h=>((try (intro (hp:(_:Bool)=true);((try simp only [Bool.not_eq_true'] at hp);(try simp only [hp,wte]);(try simp only [whn] at hp))));(first|(apply Xab 0 rfl;(first|exact Xas _ rfl|exact Xao _ rfl))|(apply Xab 1 rfl;(exact Xcv _ _ _ _ _ rfl rfl rfl rfl))|(apply Xab 2 rfl;(exact Xay _ _ _ _ rfl rfl rfl))|(apply Xab 3 rfl;(exact Xa2 _ _ _ _ _ _ HEl.out rfl rfl))|(apply Xab 5 rfl;(exact Xa8 _ _ _ _ _ rfl rfl Xbv.out))|(apply Xab 6 rfl;(exact XaP _ _ _ _ _ rfl rfl XaZ.out (by first|exact Xqu rfl|fail) (by first|exact Xqu rfl|fail)))|(apply Xab 7 rfl;(exact XaL _ _ _ _ _ _ _ _ _ _ rfl rfl rfl HEl.out rfl (by first|assumption|fail) (by simp;first|omega|fail)))|(apply Xab 10 rfl;(exact XaQ _ _ _ _ _ rfl HPl.out (by first|rfl|fail) rfl))|(apply Xab 11 rfl;(exact Xan 57 Tryz.f57 _ _ rfl rfl Tryz.func57 (by decide) rfl (VwL.refl _ _) (hf)))|(apply XaB;(case hs=>(intro _ _ h;cases h));(case hx=>rfl);(case hrun=>(intro w;simp [wtb,AV.val,go_sem];(try go_bits);rfl))))));(case hT=>((try simp (disch:=omega) only [wtn,h0,Xqz,Xqw,Xqx,XqA,XqE,Nat.reduceAdd,Nat.reduceMul,Nat.reduceSub,↓reduceIte,Nat.reduceEqDiff]);rfl)))|(refine Xah rfl ?_;((first|(refine Xav 14 rfl ?_;(refine XaE _ _ rfl Xbu.out rfl (fun b=>?_)))|(refine Xav 16 rfl ?_;(refine Xax _ _ _ _ _ _ _ rfl rfl Xa3.out XaX.out (by first|rfl|fail) (by first|exact Xqu rfl|fail) ?_)));apply Xag;(case hT=>((try simp (disch:=omega) only [wtn,h0,Xqz,Xqw,Xqx,XqA,XqE,Nat.reduceAdd,Nat.reduceMul,Nat.reduceSub,↓reduceIte,Nat.reduceEqDiff]);rfl));(case hH=>((try simp (disch:=omega) only [wtn,h0,Xqz,Xqw,Xqx,XqA,XqE,Nat.reduceAdd,Nat.reduceMul,Nat.reduceSub,↓reduceIte,Nat.reduceEqDiff]);rfl))))|fail))
  ·refine ⟨k+1,by omega,⟨by omega,by omega,fun hk1 i hi=>?_⟩,(XaH.mk' [] _ (Xqv _) (XaF.refl _ _) (by (repeat' (first|exact VwL.nil|(refine VwL.cons ?_ ?_)|exact Vw.refl _|exact Vw.top _|fail))))⟩
   rcases Nat.lt_or_ge i (k - 1) with h5|h5
   ·exact hw'.out hk1 i h5
   ·obtain rfl:i=k - 1:=by omega
    rw [hwd'.out]
    rcases h with h|h
    ·exact absurd hk1 h
    ·exact fun e=>h e.symm
  ·rename_i _ hkw
   refine Xaf _ _ (XcA rfl (RV.cell 1 rfl rfl XaZ.out (by simp) (by simp)) (RV.tmp _) (XaH.mk' [_,_] [] (Xqv _) XaF.nil (VwL.refl _ _))) ?_
   refine ⟨?_,rfl⟩
   rw [Xdg h1 (by exact hkw.1) (k:=k - 1) (by omega) (by rw [hwd'.out,hkw.2]),hfs'.out,if_pos (by omega)]
   rfl
  ·rename_i _ hkw
   have hkw':=Lib.hid hkw
   clear hkw
   revert b
   intro be
   have hat:=Lib.hid (Xdg h1 hkw'.out.1 (k:=k - 1) (by omega) (by rw [hwd'.out,hkw'.out.2]))
   have hlf:l.length=fs.length+1:=by omega
   apply Xba (S:=Nat × EF) (fun q=>frm 59 [(0,.sq l.length (ta l)),(2,.x (.pointer (some ⟨br,0,none⟩))),(6,.x (.string (bs fs))),(7,.x (.pointer (some ⟨be,0,none⟩))),(8,.x (.int .i64 q.1))]) (fun q=>[.box be q.2.cells,.box br [.x (.int .i64 0),.x (.string (bs [])),.x (.bool false),.x (.int .i64 0),.x (.slice none 0 0),.x (.int .u64 0),.x (.int .i64 0),.x (.int .i64 0)]]) (fun q=>q.1≤fs.length∧XbZ l=Xc4 q.2 (fs.drop q.1) ((l.drop 1).drop q.1)) (fun q=>fs.length - q.1) (0,ev0 k)
   case h0=>exact XaH.mk' [] [_,_] (Xqv _) (XaF.cons (VwH.box _ (VwL.cons (Vw.refl _) (VwL.cons (Vw.refl _) (VwL.cons (Vw.refl _) (VwL.cons (Vw.refl _) (VwL.cons Vw.nil (VwL.refl _ _))))))) (XaF.cons (VwH.refl _ _) XaF.nil)) (by (repeat' (first|exact VwL.nil|(refine VwL.cons ?_ ?_)|exact Vw.refl _|exact Vw.top _|fail)))
   case hi=>
    refine ⟨Nat.zero_le _,?_⟩
    rw [hat.out,hfs'.out,if_neg (by omega),List.drop_zero,List.drop_zero,show k - 1+1=k from by omega]
   rintro ⟨i,ev⟩ ⟨g1,g2⟩
   simp only at g1 g2
   have g2':=Lib.hid g2
   clear g2
   simp only [frm,XqC,XqD,Xqw,Xqx,XqJ,XqK]
   by_cases hi:i < fs.length
   ·have hd:=Xhe l (i+1) (by omega)
    have hF:=XnJ be ev (fs.getD i 0) l[i+1] (hN'.out _ (List.getElem_mem _)) (hlen'.out _ (List.getElem_mem _))
    have hst:=Lib.hid (Xel ev fs (l.drop 1) i hi (by simp;omega))
    unfold Tok.av at hF
    (repeat' (first|with_reducible (first|refine Xal ?_|refine Xac ?_|refine Xat ?_|refine Xaw ?_|refine Xae ?_|refine Xaa ?_)|(refine Xai _ rfl (fun h=>?_) (fun h=>?_)<;>((try (simp only [whn] at h));first|(exfalso;omega;done)|skip))|((apply Xad rfl);(case h=>(first|(apply Xab 0 rfl;(exact Xas _ rfl))|(apply XaB;(case hs=>(intro _ _ h;cases h));(case hx=>rfl);(case hrun=>(intro w;simp [wtb,AV.val,go_sem];skip;rfl)))));(case hT=>((try simp only [wtn]);rfl)))|fail))
    refine Xnl (B:=[]) (R:=[_,_]) mixed [0,1,2,3,4,5,6,7,8,9] [8] [] none [] 0 (Xqv _) (by decide +kernel) rfl (fun i o h=>by cases h) (by decide) ?_
    (repeat' (first|(apply XlR rfl rfl;(case h=>(intro H1;(try simp only [XqF]);(first|(apply Xab 0 rfl;(exact Xas _ rfl))|(apply Xab 6 rfl;(exact XaP _ _ _ _ _ rfl rfl XaZ.out (by first|exact Xqu rfl|fail) (by first|exact Xqu rfl|fail)))|(apply Xab 7 rfl;(exact XaL _ _ _ _ _ _ _ _ _ _ rfl rfl rfl HEl.out rfl (by first|omega|fail) (by simp;first|omega|fail)))|(apply Xab 8 rfl;(exact XaJ _ _ _ _ _ _ _ rfl rfl rfl (by kernel_rfl) rfl (by omega)))|(apply XaB;(case hs=>(intro _ _ h;cases h));(case hx=>rfl);(case hrun=>(intro w;simp [wtb,AV.val,go_sem];(try go_bits);rfl))))));(case hT=>((try simp (disch:=omega) only [wtn,hd,XbO,Xqz,Xqw,Xqx,XqA,XqE,Nat.reduceAdd,Nat.reduceMul,Nat.reduceSub,↓reduceIte,Nat.reduceEqDiff]);rfl)))|(apply XnA rfl rfl;(refine Xav 11 rfl ?_;(refine XaW 58 Tryz.f58 [_] _ _ _ rfl rfl Tryz.func58 (by decide) rfl (Xqv _) (VwL.refl _ _) (hF) ?_;rintro _ _ ⟨rfl,rfl⟩));refine ⟨_,rfl,?_⟩;apply Xnz;(case hT=>((try simp (disch:=omega) only [wtn,hd,XbO,Xqz,Xqw,Xqx,XqA,XqE,Nat.reduceAdd,Nat.reduceMul,Nat.reduceSub,↓reduceIte,Nat.reduceEqDiff]);rfl));(case hH=>((try simp (disch:=omega) only [wtn,hd,XbO,Xqz,Xqw,Xqx,XqA,XqE,Nat.reduceAdd,Nat.reduceMul,Nat.reduceSub,↓reduceIte,Nat.reduceEqDiff]);rfl)))|fail))
    (first|refine XhM ?_|fail);(apply XaT;(case hT=>rfl);(case hH=>(simp only [XqF];rfl)));skip;refine Xb2 (by decide +kernel) ?_
    (repeat (first|refine Xaa ?_|fail))
    have e1:fs.getD i 0=fs[i]:=by rw [List.getD_eq_getElem?_getD,List.getElem?_eq_getElem hi];rfl
    have e2:(l.drop 1)[i]'(by simp;omega)=l[i+1]:=by simp [Nat.add_comm]
    have hst2:=hst.out
    rw [e2,←e1,XgH] at hst2
    have hst3:=Lib.hid hst2
    clear hst2 hst e1 e2
    (repeat' (first|with_reducible (first|refine Xal ?_|refine Xac ?_|refine Xaq ?_|refine Xaw ?_|refine Xae ?_|refine Xaa ?_|refine Xam ?_|refine Xaj ?_|refine Xak ?_)|(refine Xai _ rfl (fun h=>?_) (fun h=>?_)<;>((try (simp only [whn] at h));skip))|((apply Xad rfl);(case h=>(first|(apply Xab 0 rfl;(first|exact Xas _ rfl|exact Xao _ rfl))|(apply Xab 10 rfl;(exact XaQ _ _ _ _ _ rfl HPl.out (by first|rfl|fail) rfl))|(apply XaB;(case hs=>(intro _ _ h;cases h));(case hx=>rfl);(case hrun=>(intro w;simp [wtb,AV.val,go_sem];(try go_bits);rfl)))));(case hT=>((try simp only [wtn,↓reduceIte]);rfl)))|(refine Xah rfl ?_;((refine Xav 16 rfl ?_;(refine Xax _ _ _ _ _ _ _ rfl rfl Xa3.out XaX.out (by first|rfl|fail) (by first|exact Xqu rfl|fail) ?_));apply Xag;(case hT=>((try simp only [wtn]);rfl));(case hH=>((try simp only [wtn,Nat.reduceAdd]);rfl))))|fail))
    ·have h':Xbw (fs.getD i 0) l[i+1]=false:=by simpa using h
     refine Xaf _ _ (XcA rfl (RV.cell 1 rfl rfl XaZ.out (by simp) (by simp)) (RV.tmp _) (XaH.mk' [_,_] [] (Xqv _) XaF.nil (VwL.refl _ _))) ?_
     refine ⟨?_,rfl⟩
     rw [g2'.out,hst3.out,h']
     rfl
    ·have h':Xbw (fs.getD i 0) l[i+1]=true:=by simpa using h
     refine ⟨(i+1,Xfk ev (fs.getD i 0) l[i+1]),by simp only;omega,⟨by simp only;omega,?_⟩,?_⟩
     ·simp only
      rw [g2'.out,hst3.out,h']
      rfl
     ·exact (XaH.mk' [] _ (Xqv _) (XaF.refl _ _) (by (repeat' (first|exact VwL.nil|(refine VwL.cons ?_ ?_)|exact Vw.refl _|exact Vw.top _|fail))))
   ·unfold EF.cells
    (repeat' (first|with_reducible (first|refine Xal ?_|refine Xac ?_|refine Xaq ?_|refine XaY ?_|refine Xae ?_|refine Xaa ?_|refine XaG ?_|refine Xam ?_|refine XaC ?_|refine Xak ?_)|(refine Xai _ rfl (fun h=>?_) (fun h=>?_)<;>((try (simp only [whn] at h));first|(exfalso;omega;done)|skip))|((apply Xad rfl);(case h=>(first|(apply Xab 0 rfl;(first|exact Xas _ rfl|exact Xao _ rfl))|(apply Xab 6 rfl;(exact Xaz _ _ _ _ _ _ _ _ rfl rfl Xa3.out XaZ.out (by first|exact Xqu rfl|fail) (by first|exact Xqu rfl|fail)))|(apply XaB;(case hs=>(intro _ _ h;cases h));(case hx=>rfl);(case hrun=>(intro w;simp [wtb,AV.val,go_sem];skip;rfl)))));(case hT=>((try simp only [wtn,↓reduceIte]);rfl)))|(refine Xah rfl ?_;((refine Xav 16 rfl ?_;(refine Xax _ _ _ _ _ _ _ rfl rfl Xa3.out XaX.out (by first|rfl|fail) (by first|exact Xqu rfl|fail) ?_));apply Xag;(case hT=>((try simp only [wtn]);rfl));(case hH=>((try simp only [wtn,Nat.reduceAdd]);rfl))))|fail))
    refine Xaf _ _ (XcA rfl (RV.cell 1 rfl rfl XaZ.out (by simp) (by simp)) (RV.tmp _) (XaH.mk' [_,_] [] (Xqv _) XaF.nil (VwL.refl _ _))) ?_
    refine ⟨?_,rfl⟩
    rw [g2'.out,List.drop_of_length_le (by omega)]
    rfl
 ·(repeat' (first|with_reducible (first|refine Xal ?_|refine Xac ?_|refine Xaq ?_|refine XaY ?_|refine Xae ?_|refine Xaa ?_|refine XaG ?_|refine XaC ?_)|(refine Xai _ rfl (fun h=>?_) (fun h=>?_)<;>((try (simp only [whn] at h));first|(exfalso;omega;done)|skip))|((apply Xad rfl);(case h=>(first|(apply Xab 0 rfl;(first|exact Xas _ rfl|exact Xao _ rfl))|(apply Xab 10 rfl;(exact XaQ _ _ _ _ _ rfl HPl.out (by first|rfl|fail) rfl))|(apply XaB;(case hs=>(intro _ _ h;cases h));(case hx=>rfl);(case hrun=>(intro w;simp [wtb,AV.val,go_sem];skip;rfl)))));(case hT=>((try simp only [wtn,↓reduceIte]);rfl)))|(refine Xah rfl ?_;((refine Xav 16 rfl ?_;(refine Xax _ _ _ _ _ _ _ rfl rfl Xa3.out XaX.out (by first|rfl|fail) (by first|exact Xqu rfl|fail) ?_));apply Xag;(case hT=>((try simp only [wtn]);rfl));(case hH=>((try simp only [wtn,Nat.reduceAdd]);rfl))))|fail))
  refine Xaf _ _ (XcA rfl (RV.cell 0 rfl rfl XaZ.out (by simp) (by simp)) (RV.tmp _) (XaH.mk' [_] [] (Xqv _) XaF.nil (VwL.refl _ _))) ?_
  refine ⟨?_,rfl⟩
  rw [XeS h1 (fun q i hi=>hw'.out q i (by omega))]
  rfl
section
variable {P:Program} {Δ:List Deferred} {V O:Nat→Prop} {w0 w w':World} {B H H' D:List Hp} {T T':List AV} {a a':Act} {o:Oper} {ops:Array Oper} {n:Nat}
def XhU:Op→Bool
 | .defer ..=>true
 | _=>false
theorem XmL (l:Nat) {K:Act→World→Prop} {Q:Exit→Act→World→Prop} (hd:XhU o.op=false) (h:o.wp P a w K Q):o.wpIn (Fence.wide.inRound l) n P a w K Q:=by
 refine ⟨fun _ _=>trivial,?_⟩
 rw [show (Fence.wide.inRound l).round=some l from rfl,Oper.semAt_some l _ _ (by rintro c e;rw [e] at hd;cases hd)]
 unfold Oper.wp at h
 generalize (execOp a.eval o).run P w=r at h
 cases r with
 | halt k w'=>cases k<;>first|exact h|exact h.elim
 | ok x w'=>
   cases x
   case value v=>exact h
   case skip=>exact h
   case defer d=>exact h
   case enter f args=>exact ⟨fun e=>(by cases e),CallsIn.inRound l (callsIn_wide.2 h)⟩
   case row r args=>exact ⟨fun e=>(by cases e),fun c cs _=>by
    obtain ⟨v,w2,hR,hs⟩:=h c cs
    exact ⟨v,w2,hR,stepsIn_wide.2 hs⟩⟩
   all_goals exact h.elim
theorem Xdk (l:Nat) {Q:Exit→Act→World→Prop} (hQ:¬LetsOut Q):∀(L:List Oper) (a:Act) (w:World),(∀o∈L,XhU o.op=false)→wpList P ops Q L a w→wpListIn (Fence.wide.inRound l) n P ops Q L a w
 | [],a,w,_,h=>h
 | o :: L,a,w,hd,h=>by
   unfold wpList at h
   unfold wpListIn
   split
   ·rename_i hw
    rw [if_pos hw] at h
    rcases h with h|h
    ·exact Oper.wpIn_mono (fun a w h=>Xdk l hQ L a w (fun o ho=>hd o (List.mem_cons_of_mem _ ho)) h) (XmL l (hd o (List.mem_cons_self ..)) h)
    ·exact absurd h.2 hQ
   ·rename_i hw
    rw [if_neg hw] at h
    exact ⟨fun _ _=>trivial,Xdk l hQ L _ w (fun o ho=>hd o (List.mem_cons_of_mem _ ho)) h⟩
def Xgv (P:Program) (c:Code) (Q:XcB) (T:List AV) (H:List Hp):Prop:=
 ∀l n Δ V O w0 a w,Rel Δ V O w0 H T a w→c.wpIn (Fence.wide.inRound l) n P (lift Δ V O w0 Q) a w
def Xne (Q:XcB):Prop:=∀T H,¬Q .outgrown T H
theorem Xne.lift {Q:XcB} (h:Xne Q):¬LetsOut (lift Δ V O w0 Q):=fun ⟨a,w,T,H,_,q⟩=>h T H q
variable {Q:XcB} {x y:Code} {K:List AV→List Hp→Prop}
theorem Xck (hQ:Xne Q) {id:Nat} {L:List Oper} (hd:(L.all fun o=>!XhU o.op)=true) (h:XgE P L.toArray Q L T H):Xgv P (.region id L.toArray false) Q T H:=fun l n Δ V O w0 a w r=>
 wpIn_region_lit (Xdk l hQ.lift L a w (fun o ho=>by have:=List.all_eq_true.1 hd o ho;simpa using this) (h Δ V O w0 a w r))
theorem XdQ (h:Xgv P x (XaO (Xgv P y Q) Q) T H):Xgv P (.seq x y) Q T H:=fun l n Δ V O w0 a w r=>
 wpIn_seq (wpIn_mono (h l n Δ V O w0 a w r) fun e a w ⟨T,H,r,q⟩=>by
  cases e with
  | normal=>exact q l n Δ V O w0 a w r
  | _=>exact ⟨T,H,r,q⟩)
theorem XdP {c:Operand} (b:Bool) (hc:ev T c=.x (.bool b)) (h1:b=true→Xgv P x Q T H) (h2:b=false→Xgv P y Q T H):Xgv P (.cond c x y) Q T H:=
 fun l n Δ V O w0 a w r=>wpIn_cond_split (r.evx hc) (fun hb=>h1 hb l n Δ V O w0 a w r) (fun hb=>h2 hb l n Δ V O w0 a w r)
theorem Xdn {id:Nat} {c:Code} (h:Xgv P c (Xap id Q) T H):Xgv P (.block id c) Q T H:=fun l n Δ V O w0 a w r=>
 wpIn_block (wpIn_mono (h l n Δ V O w0 a w r) fun e a w ⟨T,H,r,q⟩=>by
  cases e with
  | exit id'=>
    simp only [Xap] at q
    simp only [Exit.inBlock]
    split
    ·rename_i he;rw [if_pos he] at q;exact ⟨T,H,r,q⟩
    ·rename_i he;rw [if_neg he] at q;exact ⟨T,H,r,q⟩
  | _=>exact ⟨T,H,r,q⟩)
theorem XeP (h:Q .normal T H):Xgv P .skip Q T H:=fun l n Δ V O w0 a w r=>wpIn_skip ⟨T,H,r,h⟩
theorem XfX (h:Q .ret T H):Xgv P .ret Q T H:=fun l n Δ V O w0 a w r=>wpIn_ret ⟨T,H,r,h⟩
theorem XjV {id:Nat} (h:Q (.exit id) T H):Xgv P (.exit id) Q T H:=fun l n Δ V O w0 a w r=>wpIn_exit ⟨T,H,r,h⟩
end
end Go.Proofs.YtdpobjakdplljaaGreatDoor
