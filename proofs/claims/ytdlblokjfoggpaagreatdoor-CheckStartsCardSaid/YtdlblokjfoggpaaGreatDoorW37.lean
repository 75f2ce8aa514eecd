import Derived.Test.YtdlblokjfoggpaaGreatDoorW30
import Derived.WalkKit
import Derived.Lib.Builder
import Derived.Laws.Externs
import Derived.Test.YtdlblokjfoggpaaGreatDoorW36
import Derived.Test.YtdlblokjfoggpaaGreatDoorW27
import Derived.OwnWalk
/- strings.Builder at this dump: copyCheck, WriteByte. After the shelf's proofs (their copyCheck has another body where a written Builder lies elsewhere). -/
set_option linter.unusedSimpArgs false
set_option linter.unusedVariables false
set_option maxRecDepth 100000
set_option maxHeartbeats 8000000
namespace Go.Proofs.YtdlblokjfoggpaaGreatDoor
open Go.Shelf Go.RowKit
theorem XqK (b:Nat) (w:World) (h0:w.cell? ⟨b,0,none⟩=some (.pointer (some ⟨b,0,none⟩))) :
  Calls Tryz.prog 185 #[.pointer (some ⟨b,0,none⟩)] w fun e w'=>e=.returned (.tuple #[])∧w'=w:=by
 obtain ⟨j,hj,_⟩:=Option.map_eq_some_iff.1 Xbb.sizeBuilder
 go_enter Tryz.func185,Tryz.ntmps185
 go_wp2
 rw [Lib.run_neq_ptr_same w _ Tryz.underlying263 hj]
 go_wp2
 go_end0
 exact ⟨rfl,rfl⟩
theorem Xoq (b:Nat) (w:World) (h0:w.cell? ⟨b,0,none⟩=some (.pointer none)) (hsh:w.shape? b=some (265,2)) (hfz:w.frozen? ⟨b,0,none⟩=false) :
  Calls Tryz.prog 185 #[.pointer (some ⟨b,0,none⟩)] w fun e w'=>e=.returned (.tuple #[])∧w'=w.setCell ⟨b,0,none⟩ (.pointer (some ⟨b,0,none⟩)):=by
 obtain ⟨j,hj,hjs⟩:=Option.map_eq_some_iff.1 Xbb.sizeBuilder
 go_enter Tryz.func185,Tryz.ntmps185
 go_wp2
 rw [Lib.run_to_unsafe w ⟨b,0,none⟩ Tryz.underlying263 Tryz.underlying113 hj (by rw [hjs];decide) hsh (Nat.zero_lt_succ 1)]
 simp only [Result.andThen]
 rw [Oper.upon_value]
 go_wp2
 rw [run_callFunc_extern Tryz.func193 (by kernel_rfl) (by kernel_rfl) (by kernel_rfl) (e:=Extern.AbiNoEscape.same) (by kernel_rfl)]
 rw [Lib.run_noEscape]
 simp only [Result.andThen]
 rw [Oper.upon_value]
 go_wp2
 rw [Lib.run_from_unsafe w ⟨b,0,none⟩ Tryz.underlying113 Tryz.underlying263 hj hsh Xbb.liesBuilder]
 simp only [Result.andThen]
 rw [Oper.upon_value]
 go_wp2
 go_end0
 exact ⟨rfl,rfl⟩
theorem XsE (B b:Nat) (bs:List Value) (w:World) (h:Lib.IsBuilder 265 5 B b bs w) :
  Calls Tryz.prog 185 #[.pointer (some ⟨b,0,none⟩)] w fun e w'=>e=.returned (.tuple #[])∧(Lib.BuilderAt 265 5 B b (.pointer (some ⟨b,0,none⟩)) bs w'∧Below B w w'):=by
 rcases h with h|h
 ·refine (Xoq b w h.cell0 h.shape h.frozen0).mono ?_
  rintro e w' ⟨rfl,rfl⟩
  exact ⟨rfl,h.used _,(Below.refl B w).setCell (p:=⟨b,0,none⟩) h.1 _⟩
 ·refine (XqK b w h.cell0).mono ?_
  rintro e w' ⟨rfl,rfl⟩
  exact ⟨rfl,h,Below.refl B _⟩
theorem Xlu (B b:Nat) (bs:List Value) (c:Int) (w:World) (h:Lib.IsBuilder 265 5 B b bs w) (hlen:bs.length+1≤140737488355328) (hBw:B≤w.heap.size) :
  Calls Tryz.prog 173 #[.pointer (some ⟨b,0,none⟩),.int .u8 c] w fun e w'=>e=.returned .nilIface∧(Lib.BuilderAt 265 5 B b (.pointer (some ⟨b,0,none⟩)) (bs++[.int .u8 c]) w'∧Below B w w'):=by
 obtain ⟨i0,hi,hz0,hz1,hz2⟩:=info_parts Xbb.infoByte
 go_enter Tryz.func173,Tryz.ntmps173
 go_wp2_with (go_at_call 185;refine (XsE B b bs _ h).mono ?_)
 rintro e w1 ⟨rfl,h1,hb1⟩
 obtain ⟨hB,v,hbk,hown,hne⟩:=h1
 have c0:w1.cell? ⟨b,0,none⟩=some (.pointer (some ⟨b,0,none⟩)):=by rw [Lib.cell_of_heap hbk];rfl
 have c1:w1.cell? ⟨b,1,none⟩=some v:=by rw [Lib.cell_of_heap hbk];rfl
 go_wp2_with (at_builtin;refine wpList_append_own _ rfl _ _ 22 rfl B 5 i0 (.int .u8 0) 1 1 Tryz.underlying22 hi hz0 hz1 hz2 rfl (by decide) _ _ _ rfl (hown.alloc _) ⟨w1.heap.size,0,none⟩ 1 1 [.int .u8 c] rfl rfl ?c1 ?c2 ?c3 ?c4 ?c5 ?_)
 case c1=>
  intro j u hj
  match j,hj with
  | 0,hj=>simp at hj;subst hj;simp [Addr.add]
 case c2=>intro u hu;simp at hu;subst hu;rfl
 case c3=>unfold maxLen;omega
 case c4=>omega
 case c5=>have:=hb1.size;simp;omega
 intro v' w2 hown' hgrow _
 have hlt:b < w1.heap.size:=by
  rcases Nat.lt_or_ge b w1.heap.size with h'|h'
  ·exact h'
  ·simp [Array.getElem?_eq_none h'] at hbk
 have hb2:w2.heap[b]?=some (.cells #[.pointer (some ⟨b,0,none⟩),v] 265 (0,0)):=by
  rw [hgrow.block b (by simp;omega) (fun e=>hne e.symm),Lib.alloc_old w1 _ b hlt]
  exact hbk
 have d0:w2.cell? ⟨b,0,none⟩=some (.pointer (some ⟨b,0,none⟩)):=by rw [Lib.cell_of_heap hb2];rfl
 have d1:w2.cell? ⟨b,1,none⟩=some v:=by rw [Lib.cell_of_heap hb2];rfl
 have f1:w2.frozen? ⟨b,1,none⟩=false:=Lib.frozen_of_heap hb2 1
 obtain ⟨g,cap,rfl⟩:∃g cap,v'=.slice (some ⟨g,0,none⟩) (bs.length+1) cap:=by
  rcases hown'.2 with ⟨_,h0⟩|⟨g,cap,cur,hv,_⟩
  ·omega
  ·exact ⟨g,cap,hv⟩
 go_wp2
 go_ret
 refine ⟨rfl,?_,?_⟩
 ·exact Lib.BuilderAt.put (T:=265) (e:=5) hB hb2 (bs':=bs++[.int .u8 c]) (by simpa using hown') Xbb.neB5
 ·exact ((hb1.alloc (by have:=hb1.size;omega) _).grown hgrow (by have:=hb1.size;simp;omega) (fun k hk=>(hown.lt k hk).1)).setCell (p:=⟨b,1,none⟩) hB _
open Go.RowKit
theorem XhQ (l:List UInt8) (hl:l.length≤1000000) (w:World) (hg:Gw w):Calls Tryz.prog 172 #[.string (bs l)] w fun e w'=>e=.returned (.tuple #[.int .u8 ((Xil l).1.toNat:Nat),.int .i64 ((Xil l).2:Nat)])∧Ext w w':=by
 have h0:DenL (fun _=>False) w [.x (.string (bs l))] [.string (bs l)]:=DenL.cons' (Xov _) DenL.nil'
 have:=Xmp l hl (fun _=>False) w [.string (bs l)] (fun _ h=>h.elim) ⟨by simp,List.Pairwise.nil,by simp⟩ (h0.weak fun k hk=>by rcases hk with hk|⟨x,hx,_⟩;exact hk;cases hx) (GL.none hg |>.mono fun k ⟨x,hx,_⟩=>by cases hx)
 refine this.mono fun e w' ⟨r,H',v,⟨hr,_⟩,he,hdv,_,hfr,_⟩=>?_
 subst hr
 rw [Den] at hdv
 obtain ⟨vals,rfl,hd⟩:=hdv
 have e2:=DenL.exact' (l:=[.int .u8 ((Xil l).1.toNat:Nat),.int .i64 ((Xil l).2:Nat)]) hd
 subst e2
 exact ⟨he,Fr.ext ⟨hfr.os,hfr.tape,hfr.output,hfr.size,fun k hk hn=>hfr.block k hk fun ⟨x,hx,_⟩=>by cases hx⟩⟩
theorem XrJ {B:Nat} {e:TypeId} {size n:Nat} {v:Value} {bs:List Value} {w w':World} (h:w.ownsRow B e size v n bs) (hE:Ext w w'):w'.ownsRow B e size v n bs:=by
 obtain ⟨h1,h2|⟨g,cap,cur,e1,e2,e3,e4,e5,e6,e7⟩⟩:=h
 ·exact ⟨h1,.inl h2⟩
 ·have hlt:g < w.heap.size:=(Array.getElem?_eq_some_iff.1 e3).1
  exact ⟨h1,.inr ⟨g,cap,cur,e1,e2,by rw [hE.block g hlt];exact e3,e4,e5,e6,e7⟩⟩
theorem XpM {B b:Nat} {p:Value} {bs:List Value} {w w':World} (h:Lib.BuilderAt 265 5 B b p bs w) (hE:Ext w w'):Lib.BuilderAt 265 5 B b p bs w':=by
 obtain ⟨h1,v,h2,h3,h4⟩:=h
 have hlt:b < w.heap.size:=(Array.getElem?_eq_some_iff.1 h2).1
 exact ⟨h1,v,by rw [hE.block b hlt];exact h2,XrJ h3 hE,h4⟩
theorem Xtd {B b:Nat} {bs:List Value} {w w':World} (h:Lib.IsBuilder 265 5 B b bs w) (hE:Ext w w'):Lib.IsBuilder 265 5 B b bs w':=h.imp (XpM · hE) (XpM · hE)
def Xh9 (x:Option (List UInt8 × Nat)):Value:=match x with|none=>.tuple #[.string (bs []),.int .i64 0,.bool false]|some x=>.tuple #[.string (bs x.1),.int .i64 ((x.2:Nat)+1),.bool true]
theorem Xpc (l:List UInt8) (w:World) (hg:Gw w) (h0:0 < l.length) (hl:l.length≤100000):Calls Tryz.prog 153 #[.string (bs l)] w fun e w'=>e=.returned (Xh9 (quo (l.drop 1)))∧Ext w w':=by
 go_enter Tryz.func153,Tryz.ntmps153
 go_wp2_with fail
 go_loopw [6] (fun i wr=>∃(k:Nat) (out:List UInt8),1≤k∧k≤l.length∧i=.int .i64 k∧Lib.IsBuilder 265 5 w.heap.size w.heap.size (Lib.byteCells out) wr∧Ext w wr∧out.length≤k∧Hid (quo (l.drop 1)=(quo (l.drop k)).map fun x=>(out++x.1,(k - 1)+x.2))) (fun i _=>l.length - (intOf i).toNat)
 case atStart=>
  refine ⟨1,[],Nat.le_refl _,h0,rfl,.inl ⟨Nat.le_refl _,.slice none 0 0,by unfold World.alloc;exact Array.getElem?_push_size,⟨rfl,.inl ⟨rfl,rfl⟩⟩,by intro h;cases h⟩,Ext.al _ _,Nat.zero_le _,Lib.hid (by cases quo (l.drop 1)<;>simp)⟩
 case round=>
  obtain ⟨k,out,h1,hk,rfl,hB,hE,hol,hQ⟩:=hrel
  have hz:w.heap.size≤wr.heap.size:=hE.size
  have hbl:(Lib.byteCells out).length=out.length:=by simp [Lib.byteCells]
  by_cases hlt:k < l.length
  ·have hd:=Lib.hid (XfV hlt)
   by_cases h34:l[k].toNat=34
   ·have hQ2:Hid (quo (l.drop 1)=some (out,k)):=Lib.hid (by rw [hQ.out,hd.out,Xjl _ _ h34];simp;omega)
    clear hQ hd
    have b1:((l[k].toNat:Int) == 34)=true:=by rw [beq_iff_eq];omega
    go_wp2_with (go_at_call 171;refine (Builder_String_any w.heap.size w.heap.size out _ hB hz).mono ?_;rintro e w1 ⟨rfl,hb1⟩)
    go_ret3
    exact ⟨by rw [hQ2.out];simp [Xh9,bs],Below.trans hE hb1⟩
   ·have b1:((l[k].toNat:Int) == 34)=false:=by rw [XvK];omega
    by_cases h32:l[k].toNat < 32
    ·have hQ2:Hid (quo (l.drop 1)=none):=Lib.hid (by rw [hQ.out,hd.out,Xkg _ _ h34 (by rw [XeH,if_pos (.inl h32)])];rfl)
     clear hQ hd
     go_wp2_with fail
     go_ret3
     exact ⟨by rw [hQ2.out];simp [Xh9,XfP],hE⟩
    ·by_cases h92:l[k].toNat=92
     ·cases hes:Xfk (l.drop (k+1)) with
      | none=>
        have hQ2:Hid (quo (l.drop 1)=none):=Lib.hid (by rw [hQ.out,hd.out,Xkg _ _ h34 (by rw [XeH,if_neg (by omega),if_neg (by omega),hes];rfl)];rfl)
        clear hQ hd
        have b2:((l[k].toNat:Int) == 92)=true:=by rw [beq_iff_eq];omega
        go_wp2_with fail
        refine Calls.mono (XhQ (l.drop (k+1)) (by simp;omega) _ (hg.ext hE)) ?_
        rintro e w1 ⟨rfl,hw1⟩
        rw [Xdg hes]
        go_wp2_with fail
        go_ret3
        exact ⟨by rw [hQ2.out];simp [Xh9,XfP],hE.tr hw1⟩
      | some x=>
        obtain ⟨b,n⟩:=x
        have hle:=Xmq hes
        rw [List.length_drop] at hle
        have hQ2:Hid (quo (l.drop 1)=(quo (l.drop (k+(1+n)))).map fun x=>((out++[b])++x.1,(k+(1+n) - 1)+x.2)):=Lib.hid (by
         rw [hQ.out,hd.out,XfB _ _ b (n+1) h34 (by rw [XeH,if_neg (by omega),if_neg (by omega),hes];rfl),←hd.out,List.drop_drop,Option.map_map,show k+(n+1)=k+(1+n) by omega]
         congr 1
         funext y
         simp only [Function.comp,List.append_assoc,List.singleton_append,Prod.mk.injEq,true_and]
         omega)
        clear hQ hd
        have b2:((l[k].toNat:Int) == 92)=true:=by rw [beq_iff_eq];omega
        go_wp2_with fail
        refine Calls.mono (XhQ (l.drop (k+1)) (by simp;omega) _ (hg.ext hE)) ?_
        rintro e w1 ⟨rfl,hw1⟩
        rw [XdI hes]
        have hB1:=Xtd hB hw1
        have hz1:w.heap.size≤w1.heap.size:=Nat.le_trans hz hw1.size
        have b3:((n:Int) == 0)=false:=by rw [XvK];omega
        go_wp2_with (go_at_call 173;refine (Xlu w.heap.size w.heap.size (Lib.byteCells out) b.toNat _ hB1 (by omega) hz1).mono ?_;rintro e w2 ⟨rfl,hB2,hb2⟩)
        have hB3:Lib.BuilderAt 265 5 w.heap.size w.heap.size (.pointer (some ⟨w.heap.size,0,none⟩)) (Lib.byteCells (out++[b])) w2:=by
         have:Lib.byteCells (out++[b])=Lib.byteCells out++[.int .u8 b.toNat]:=by simp [Lib.byteCells]
         rw [this];exact hB2
        go_roundw
        case rel=>exact ⟨k+(1+n),out++[b],by omega,by omega,by go_num,.inr hB3,Below.trans (hE.tr hw1) hb2,by simp;omega,hQ2⟩
        case measure=>simp [intOf];omega
     ·have hQ2:Hid (quo (l.drop 1)=(quo (l.drop (k+1))).map fun x=>((out++[l[k]])++x.1,(k+1 - 1)+x.2)):=Lib.hid (by
       rw [hQ.out,hd.out,XfB _ _ l[k] 1 h34 (by rw [XeH,if_neg (by omega),if_pos h92]),List.drop_succ_cons,List.drop_zero,Option.map_map]
       congr 1
       funext y
       simp only [Function.comp,List.append_assoc,List.singleton_append,Prod.mk.injEq,true_and]
       omega)
      clear hQ hd
      have b2:((l[k].toNat:Int) == 92)=false:=by rw [XvK];omega
      go_wp2_with (go_at_call 173;refine (Xlu w.heap.size w.heap.size (Lib.byteCells out) l[k].toNat _ hB (by omega) hz).mono ?_;rintro e w1 ⟨rfl,hB2,hb2⟩)
      have hB3:Lib.BuilderAt 265 5 w.heap.size w.heap.size (.pointer (some ⟨w.heap.size,0,none⟩)) (Lib.byteCells (out++[l[k]])) w1:=by
       have:Lib.byteCells (out++[l[k]])=Lib.byteCells out++[.int .u8 l[k].toNat]:=by simp [Lib.byteCells]
       rw [this];exact hB2
      go_roundw
      case rel=>exact ⟨k+1,out++[l[k]],by omega,by omega,by go_num,.inr hB3,Below.trans hE hb2,by simp;omega,hQ2⟩
      case measure=>simp [intOf];omega
  ·have hQ2:Hid (quo (l.drop 1)=none):=Lib.hid (by rw [hQ.out,List.drop_eq_nil_of_le (by omega),Xjm];rfl)
   clear hQ
   go_wp2_with fail
   go_ret3
   exact ⟨by rw [hQ2.out];simp [Xh9,XfP],hE⟩
theorem Xpd (l:List UInt8) (h0:0 < l.length) (hl:l.length≤100000) (H:List Hp):XaM Tryz.prog 153 H [.x (.string (bs l))] (fun r H'=>r=.x (Xh9 (quo (l.drop 1)))∧H'=H):=
 XfF (args:=[.string (bs l)]) (fun w hg=>Xpc l w hg h0 hl) H
theorem Xdr (out:List UInt8) (b:UInt8):Lib.byteCells out++[.int .u8 b.toNat]=Lib.byteCells (out++[b]):=by simp [Lib.byteCells]
theorem Xnl (l:List UInt8) (w:World) (h0:0 < l.length) (hl:l.length≤100000):Calls Tryz.prog 154 #[.string (bs l)] w fun e w'=>e=.returned (Xh9 (sla (l.drop 1)))∧Ext w w':=by
 go_enter Tryz.func154,Tryz.ntmps154
 go_wp2_with fail
 go_loopw [6] (fun i wr=>∃(k:Nat) (out:List UInt8),1≤k∧k≤l.length∧i=.int .i64 k∧Lib.IsBuilder 265 5 w.heap.size w.heap.size (Lib.byteCells out) wr∧Ext w wr∧out.length≤k∧Hid (sla (l.drop 1)=(sla (l.drop k)).map fun x=>(out++x.1,(k - 1)+x.2))) (fun i _=>l.length - (intOf i).toNat)
 case atStart=>
  refine ⟨1,[],Nat.le_refl _,h0,rfl,.inl ⟨Nat.le_refl _,.slice none 0 0,by unfold World.alloc;exact Array.getElem?_push_size,⟨rfl,.inl ⟨rfl,rfl⟩⟩,by intro h;cases h⟩,Ext.al _ _,Nat.zero_le _,Lib.hid (by cases sla (l.drop 1)<;>simp)⟩
 case round=>
  obtain ⟨k,out,h1,hk,rfl,hB,hE,hol,hQ⟩:=hrel
  have hz:w.heap.size≤wr.heap.size:=hE.size
  have hbl:(Lib.byteCells out).length=out.length:=by simp [Lib.byteCells]
  by_cases hlt:k < l.length
  ·have hd:=Lib.hid (XfV hlt)
   by_cases h47:l[k].toNat=47
   ·have hQ2:Hid (sla (l.drop 1)=some (out,k)):=Lib.hid (by rw [hQ.out,hd.out,Xjw _ _ h47];simp;omega)
    clear hQ hd
    have b1:((l[k].toNat:Int) == 47)=true:=by rw [beq_iff_eq];omega
    go_wp2_with (go_at_call 171;refine (Builder_String_any w.heap.size w.heap.size out _ hB hz).mono ?_;rintro e w1 ⟨rfl,hb1⟩)
    go_ret3
    exact ⟨by rw [hQ2.out];simp [Xh9,bs],Below.trans hE hb1⟩
   ·have b1:((l[k].toNat:Int) == 47)=false:=by rw [XvK];omega
    by_cases h32:l[k].toNat < 32
    ·have hQ2:Hid (sla (l.drop 1)=none):=Lib.hid (by rw [hQ.out,hd.out,Xjv _ _ h32];rfl)
     clear hQ hd
     go_wp2_with fail
     go_ret3
     exact ⟨by rw [hQ2.out];simp [Xh9,XfP],hE⟩
    ·by_cases h92:l[k].toNat=92
     ·have b2:((l[k].toNat:Int) == 92)=true:=by rw [beq_iff_eq];omega
      by_cases hlt2:k+1 < l.length
      ·have hd2:=Lib.hid (XfV hlt2)
       by_cases hd32:l[k+1].toNat < 32
       ·have hQ2:Hid (sla (l.drop 1)=none):=Lib.hid (by rw [hQ.out,hd.out,hd2.out,Xhh _ _ _ h92 hd32];rfl)
        clear hQ hd hd2
        have b3:((k:Int)+1 == (l.length:Int))=false:=by rw [XvK];omega
        go_wp2_with fail
        go_ret3
        exact ⟨by rw [hQ2.out];simp [Xh9,XfP],hE⟩
       ·by_cases hd47:l[k+1].toNat=47
        ·have hQ2:Hid (sla (l.drop 1)=(sla (l.drop (k+2))).map fun x=>((out++[l[k+1]])++x.1,(k+2 - 1)+x.2)):=Lib.hid (by
          rw [hQ.out,hd.out,hd2.out,Xjx _ _ _ h92 hd47,Option.map_map]
          congr 1
          funext y
          simp only [Function.comp,List.append_assoc,List.singleton_append,Prod.mk.injEq,true_and]
          omega)
         clear hQ hd hd2
         have b3:((k:Int)+1 == (l.length:Int))=false:=by rw [XvK];omega
         have b4:((l[k+1].toNat:Int) != 47)=false:=by rw [bne_eq_false_iff_eq];omega
         clear hd47 h92
         go_wp2_with fail
         refine Calls.mono (Xlu w.heap.size w.heap.size (Lib.byteCells out) l[k+1].toNat _ hB (by omega) hz) ?_
         rintro e w1 ⟨rfl,hB2,hb2⟩
         rw [Xdr] at hB2
         go_wp2_with fail
         go_roundw
         case rel=>exact ⟨k+2,out++[l[k+1]],by omega,by omega,by go_num,.inr hB2,Below.trans hE hb2,by simp;omega,hQ2⟩
         case measure=>simp [intOf];omega
        ·have hQ2:Hid (sla (l.drop 1)=(sla (l.drop (k+2))).map fun x=>((out++[l[k]]++[l[k+1]])++x.1,(k+2 - 1)+x.2)):=Lib.hid (by
          rw [hQ.out,hd.out,hd2.out,XjA _ _ _ h92 (by omega) hd47,Option.map_map]
          congr 1
          funext y
          simp only [Function.comp,List.append_assoc,List.singleton_append,XvE,XvD,Prod.mk.injEq,true_and]
          omega)
         clear hQ hd hd2
         have b3:((k:Int)+1 == (l.length:Int))=false:=by rw [XvK];omega
         have b4:((l[k+1].toNat:Int) != 47)=true:=by rw [bne_iff_ne];omega
         have e92:Lib.byteCells out++[.int .u8 92]=Lib.byteCells (out++[l[k]]):=by rw [←Xdr,h92];rfl
         clear hd47 h92
         go_wp2_with fail
         refine Calls.mono (Xlu w.heap.size w.heap.size (Lib.byteCells out) 92 _ hB (by omega) hz) ?_
         rintro e w1 ⟨rfl,hB2,hb2⟩
         rw [e92] at hB2
         have hz1:w.heap.size≤w1.heap.size:=Nat.le_trans hz hb2.size
         have hbl1:(Lib.byteCells (out++[l[k]])).length=out.length+1:=by simp [Lib.byteCells]
         go_wp2_with fail
         refine Calls.mono (Xlu w.heap.size w.heap.size (Lib.byteCells (out++[l[k]])) l[k+1].toNat _ (.inr hB2) (by omega) hz1) ?_
         rintro e w2 ⟨rfl,hB3,hb3⟩
         rw [Xdr] at hB3
         go_wp2_with fail
         go_roundw
         case rel=>exact ⟨k+2,out++[l[k]]++[l[k+1]],by omega,by omega,by go_num,.inr hB3,Below.trans (Below.trans hE hb2) hb3,by simp;omega,hQ2⟩
         case measure=>simp [intOf];omega
      ·have hQ2:Hid (sla (l.drop 1)=none):=Lib.hid (by rw [hQ.out,hd.out,List.drop_eq_nil_of_le (by omega),Xhi _ h92];rfl)
       clear hQ hd
       have b3:((k:Int)+1 == (l.length:Int))=true:=by rw [beq_iff_eq];omega
       go_wp2_with fail
       go_ret3
       exact ⟨by rw [hQ2.out];simp [Xh9,XfP],hE⟩
     ·have hQ2:Hid (sla (l.drop 1)=(sla (l.drop (k+1))).map fun x=>((out++[l[k]])++x.1,(k+1 - 1)+x.2)):=Lib.hid (by
       rw [hQ.out,hd.out,Xjz _ _ h47 (by omega) h92,Option.map_map]
       congr 1
       funext y
       simp only [Function.comp,List.append_assoc,List.singleton_append,Prod.mk.injEq,true_and]
       omega)
      clear hQ hd
      have b2:((l[k].toNat:Int) == 92)=false:=by rw [XvK];omega
      go_wp2_with (go_at_call 173;refine (Xlu w.heap.size w.heap.size (Lib.byteCells out) l[k].toNat _ hB (by omega) hz).mono ?_;rintro e w1 ⟨rfl,hB2,hb2⟩)
      rw [Xdr] at hB2
      go_roundw
      case rel=>exact ⟨k+1,out++[l[k]],by omega,by omega,by go_num,.inr hB2,Below.trans hE hb2,by simp;omega,hQ2⟩
      case measure=>simp [intOf];omega
  ·have hQ2:Hid (sla (l.drop 1)=none):=Lib.hid (by rw [hQ.out,List.drop_eq_nil_of_le (by omega),Xjy];rfl)
   clear hQ
   go_wp2_with fail
   go_ret3
   exact ⟨by rw [hQ2.out];simp [Xh9,XfP],hE⟩
theorem Xnm (l:List UInt8) (h0:0 < l.length) (hl:l.length≤100000) (H:List Hp):XaM Tryz.prog 154 H [.x (.string (bs l))] (fun r H'=>r=.x (Xh9 (sla (l.drop 1)))∧H'=H):=
 XdS (args:=[.string (bs l)]) (fun w=>Xnl l w h0 hl) H
end Go.Proofs.YtdlblokjfoggpaaGreatDoor
