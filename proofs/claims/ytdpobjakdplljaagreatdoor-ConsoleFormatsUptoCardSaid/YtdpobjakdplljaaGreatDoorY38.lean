import Derived.Test.YtdpobjakdplljaaGreatDoorY37
import Derived.Test.YtdpobjakdplljaaGreatDoorY10
import Derived.OwnWalk
import Derived.Test.YtdpobjakdplljaaGreatDoorY12
import Derived.Test.YtdpobjakdplljaaGreatDoorY32
import Derived.Test.YtdpobjakdplljaaGreatDoorY11
/- The program's lexer: quoted. -/
set_option linter.unusedSimpArgs false
set_option linter.unusedVariables false
set_option maxRecDepth 100000
set_option maxHeartbeats 8000000
namespace Go.Proofs.YtdpobjakdplljaaGreatDoor
open Go.RowKit
theorem XiX (l:List UInt8) (hl:l.length≤1000000) (w:World) (hg:Gw w):Calls Tryz.prog 157 #[.string (bs l)] w fun e w'=>e=.returned (.tuple #[.int .u8 ((XjM l).1.toNat:Nat),.int .i64 ((XjM l).2:Nat)])∧Ext w w':=by
 have h0:XaV (fun _=>False) w [.x (.string (bs l))] [.string (bs l)]:=XaV.cons' (XdP _) XaV.nil'
 have:=XnT l hl (fun _=>False) w [.string (bs l)] (fun _ h=>h.elim) ⟨by simp,List.Pairwise.nil,by simp⟩ (h0.weak fun k hk=>by rcases hk with hk|⟨x,hx,_⟩;exact hk;cases hx) (GL.none hg |>.mono fun k ⟨x,hx,_⟩=>by cases hx)
 refine this.mono fun e w' ⟨r,H',v,⟨hr,_⟩,he,hdv,_,hfr,_⟩=>?_
 subst hr
 rw [Den] at hdv
 obtain ⟨vals,rfl,hd⟩:=hdv
 have e2:=XaV.exact' (l:=[.int .u8 ((XjM l).1.toNat:Nat),.int .i64 ((XjM l).2:Nat)]) hd
 subst e2
 exact ⟨he,Fr.ext ⟨hfr.os,hfr.tape,hfr.output,hfr.size,fun k hk hn=>hfr.block k hk fun ⟨x,hx,_⟩=>by cases hx⟩⟩
theorem XsL {B:Nat} {e:TypeId} {size n:Nat} {v:Value} {bs:List Value} {w w':World} (h:w.ownsRow B e size v n bs) (hE:Ext w w'):w'.ownsRow B e size v n bs:=by
 obtain ⟨h1,h2|⟨g,cap,cur,e1,e2,e3,e4,e5,e6,e7⟩⟩:=h
 ·exact ⟨h1,.inl h2⟩
 ·have hlt:g < w.heap.size:=(Array.getElem?_eq_some_iff.1 e3).1
  exact ⟨h1,.inr ⟨g,cap,cur,e1,e2,by rw [hE.block g hlt];exact e3,e4,e5,e6,e7⟩⟩
theorem Xrg {B b:Nat} {p:Value} {bs:List Value} {w w':World} (h:Lib.BuilderAt 74 5 B b p bs w) (hE:Ext w w'):Lib.BuilderAt 74 5 B b p bs w':=by
 obtain ⟨h1,v,h2,h3,h4⟩:=h
 have hlt:b < w.heap.size:=(Array.getElem?_eq_some_iff.1 h2).1
 exact ⟨h1,v,by rw [hE.block b hlt];exact h2,XsL h3 hE,h4⟩
theorem XtW {B b:Nat} {bs:List Value} {w w':World} (h:Lib.IsBuilder 74 5 B b bs w) (hE:Ext w w'):Lib.IsBuilder 74 5 B b bs w':=h.imp (Xrg · hE) (Xrg · hE)
def Xjo (x:Option (List UInt8 × Nat)):Value:=match x with|none=>.tuple #[.string (bs []),.int .i64 0,.bool false]|some x=>.tuple #[.string (bs x.1),.int .i64 ((x.2:Nat)+1),.bool true]
theorem XqM (l:List UInt8) (w:World) (hg:Gw w) (h0:0 < l.length) (hl:l.length≤100000):Calls Tryz.prog 125 #[.string (bs l)] w fun e w'=>e=.returned (Xjo (quo (l.drop 1)))∧Ext w w':=by
 go_enter Tryz.func125,Tryz.ntmps125
 go_wp2_with fail
 go_loopw [6] (fun i wr=>∃(k:Nat) (out:List UInt8),1≤k∧k≤l.length∧i=.int .i64 k∧Lib.IsBuilder 74 5 w.heap.size w.heap.size (Lib.byteCells out) wr∧Ext w wr∧out.length≤k∧Hid (quo (l.drop 1)=(quo (l.drop k)).map fun x=>(out++x.1,(k - 1)+x.2))) (fun i _=>l.length - (intOf i).toNat)
 case atStart=>
  refine ⟨1,[],Nat.le_refl _,h0,rfl,.inl ⟨Nat.le_refl _,.slice none 0 0,by unfold World.alloc;exact Array.getElem?_push_size,⟨rfl,.inl ⟨rfl,rfl⟩⟩,by intro h;cases h⟩,Ext.al _ _,Nat.zero_le _,Lib.hid (by cases quo (l.drop 1)<;>simp)⟩
 case round=>
  obtain ⟨k,out,h1,hk,rfl,hB,hE,hol,hQ⟩:=hrel
  have hz:w.heap.size≤wr.heap.size:=hE.size
  have hbl:(Lib.byteCells out).length=out.length:=by simp [Lib.byteCells]
  by_cases hlt:k < l.length
  ·have hd:=Lib.hid (Xcw hlt)
   by_cases h34:l[k].toNat=34
   ·have hQ2:Hid (quo (l.drop 1)=some (out,k)):=Lib.hid (by rw [hQ.out,hd.out,XgE _ _ h34];simp;omega)
    clear hQ hd
    have b1:((l[k].toNat:Int) == 34)=true:=by rw [beq_iff_eq];omega
    go_wp2_with (go_at_call 37;refine (Builder_String_any w.heap.size w.heap.size out _ hB hz).mono ?_;rintro e w1 ⟨rfl,hb1⟩)
    go_ret3
    exact ⟨by rw [hQ2.out];simp [Xjo,bs],Below.trans hE hb1⟩
   ·have b1:((l[k].toNat:Int) == 34)=false:=by rw [XvM];omega
    by_cases h32:l[k].toNat < 32
    ·have hQ2:Hid (quo (l.drop 1)=none):=Lib.hid (by rw [hQ.out,hd.out,Xjp _ _ h34 (by rw [Xb0,if_pos (.inl h32)])];rfl)
     clear hQ hd
     go_wp2_with fail
     go_ret3
     exact ⟨by rw [hQ2.out];simp [Xjo,Xco],hE⟩
    ·by_cases h92:l[k].toNat=92
     ·cases hes:Xeo (l.drop (k+1)) with
      | none=>
        have hQ2:Hid (quo (l.drop 1)=none):=Lib.hid (by rw [hQ.out,hd.out,Xjp _ _ h34 (by rw [Xb0,if_neg (by omega),if_neg (by omega),hes];rfl)];rfl)
        clear hQ hd
        have b2:((l[k].toNat:Int) == 92)=true:=by rw [beq_iff_eq];omega
        go_wp2_with fail
        refine Calls.mono (XiX (l.drop (k+1)) (by simp;omega) _ (hg.ext hE)) ?_
        rintro e w1 ⟨rfl,hw1⟩
        rw [Xdr hes]
        go_wp2_with fail
        go_ret3
        exact ⟨by rw [hQ2.out];simp [Xjo,Xco],hE.tr hw1⟩
      | some x=>
        obtain ⟨b,n⟩:=x
        have hle:=XnU hes
        rw [List.length_drop] at hle
        have hQ2:Hid (quo (l.drop 1)=(quo (l.drop (k+(1+n)))).map fun x=>((out++[b])++x.1,(k+(1+n) - 1)+x.2)):=Lib.hid (by
         rw [hQ.out,hd.out,Xeg _ _ b (n+1) h34 (by rw [Xb0,if_neg (by omega),if_neg (by omega),hes];rfl),←hd.out,List.drop_drop,Option.map_map,show k+(n+1)=k+(1+n) by omega]
         congr 1
         funext y
         simp only [Function.comp,List.append_assoc,List.singleton_append,Prod.mk.injEq,true_and]
         omega)
        clear hQ hd
        have b2:((l[k].toNat:Int) == 92)=true:=by rw [beq_iff_eq];omega
        go_wp2_with fail
        refine Calls.mono (XiX (l.drop (k+1)) (by simp;omega) _ (hg.ext hE)) ?_
        rintro e w1 ⟨rfl,hw1⟩
        rw [XdY hes]
        have hB1:=XtW hB hw1
        have hz1:w.heap.size≤w1.heap.size:=Nat.le_trans hz hw1.size
        have b3:((n:Int) == 0)=false:=by rw [XvM];omega
        go_wp2_with (go_at_call 34;refine (Xd5 w.heap.size w.heap.size (Lib.byteCells out) b.toNat _ hB1 (by omega) hz1).mono ?_;rintro e w2 ⟨rfl,hB2,hb2⟩)
        have hB3:Lib.BuilderAt 74 5 w.heap.size w.heap.size (.pointer (some ⟨w.heap.size,0,none⟩)) (Lib.byteCells (out++[b])) w2:=by
         have:Lib.byteCells (out++[b])=Lib.byteCells out++[.int .u8 b.toNat]:=by simp [Lib.byteCells]
         rw [this];exact hB2
        go_roundw
        case rel=>exact ⟨k+(1+n),out++[b],by omega,by omega,by go_num,.inr hB3,Below.trans (hE.tr hw1) hb2,by simp;omega,hQ2⟩
        case measure=>simp [intOf];omega
     ·have hQ2:Hid (quo (l.drop 1)=(quo (l.drop (k+1))).map fun x=>((out++[l[k]])++x.1,(k+1 - 1)+x.2)):=Lib.hid (by
       rw [hQ.out,hd.out,Xeg _ _ l[k] 1 h34 (by rw [Xb0,if_neg (by omega),if_pos h92]),List.drop_succ_cons,List.drop_zero,Option.map_map]
       congr 1
       funext y
       simp only [Function.comp,List.append_assoc,List.singleton_append,Prod.mk.injEq,true_and]
       omega)
      clear hQ hd
      have b2:((l[k].toNat:Int) == 92)=false:=by rw [XvM];omega
      go_wp2_with (go_at_call 34;refine (Xd5 w.heap.size w.heap.size (Lib.byteCells out) l[k].toNat _ hB (by omega) hz).mono ?_;rintro e w1 ⟨rfl,hB2,hb2⟩)
      have hB3:Lib.BuilderAt 74 5 w.heap.size w.heap.size (.pointer (some ⟨w.heap.size,0,none⟩)) (Lib.byteCells (out++[l[k]])) w1:=by
       have:Lib.byteCells (out++[l[k]])=Lib.byteCells out++[.int .u8 l[k].toNat]:=by simp [Lib.byteCells]
       rw [this];exact hB2
      go_roundw
      case rel=>exact ⟨k+1,out++[l[k]],by omega,by omega,by go_num,.inr hB3,Below.trans hE hb2,by simp;omega,hQ2⟩
      case measure=>simp [intOf];omega
  ·have hQ2:Hid (quo (l.drop 1)=none):=Lib.hid (by rw [hQ.out,List.drop_eq_nil_of_le (by omega),Xig];rfl)
   clear hQ
   go_wp2_with fail
   go_ret3
   exact ⟨by rw [hQ2.out];simp [Xjo,Xco],hE⟩
theorem XqN (l:List UInt8) (h0:0 < l.length) (hl:l.length≤100000) (H:List Hp):Xa3 Tryz.prog 125 H [.x (.string (bs l))] (fun r H'=>r=.x (Xjo (quo (l.drop 1)))∧H'=H):=
 Xf9 (args:=[.string (bs l)]) (fun w hg=>XqM l w hg h0 hl) H
theorem Xbq (out:List UInt8) (b:UInt8):Lib.byteCells out++[.int .u8 b.toNat]=Lib.byteCells (out++[b]):=by simp [Lib.byteCells]
theorem XoO (l:List UInt8) (w:World) (h0:0 < l.length) (hl:l.length≤100000):Calls Tryz.prog 126 #[.string (bs l)] w fun e w'=>e=.returned (Xjo (sla (l.drop 1)))∧Ext w w':=by
 go_enter Tryz.func126,Tryz.ntmps126
 go_wp2_with fail
 go_loopw [6] (fun i wr=>∃(k:Nat) (out:List UInt8),1≤k∧k≤l.length∧i=.int .i64 k∧Lib.IsBuilder 74 5 w.heap.size w.heap.size (Lib.byteCells out) wr∧Ext w wr∧out.length≤k∧Hid (sla (l.drop 1)=(sla (l.drop k)).map fun x=>(out++x.1,(k - 1)+x.2))) (fun i _=>l.length - (intOf i).toNat)
 case atStart=>
  refine ⟨1,[],Nat.le_refl _,h0,rfl,.inl ⟨Nat.le_refl _,.slice none 0 0,by unfold World.alloc;exact Array.getElem?_push_size,⟨rfl,.inl ⟨rfl,rfl⟩⟩,by intro h;cases h⟩,Ext.al _ _,Nat.zero_le _,Lib.hid (by cases sla (l.drop 1)<;>simp)⟩
 case round=>
  obtain ⟨k,out,h1,hk,rfl,hB,hE,hol,hQ⟩:=hrel
  have hz:w.heap.size≤wr.heap.size:=hE.size
  have hbl:(Lib.byteCells out).length=out.length:=by simp [Lib.byteCells]
  by_cases hlt:k < l.length
  ·have hd:=Lib.hid (Xcw hlt)
   by_cases h47:l[k].toNat=47
   ·have hQ2:Hid (sla (l.drop 1)=some (out,k)):=Lib.hid (by rw [hQ.out,hd.out,Xfu _ _ h47];simp;omega)
    clear hQ hd
    have b1:((l[k].toNat:Int) == 47)=true:=by rw [beq_iff_eq];omega
    go_wp2_with (go_at_call 37;refine (Builder_String_any w.heap.size w.heap.size out _ hB hz).mono ?_;rintro e w1 ⟨rfl,hb1⟩)
    go_ret3
    exact ⟨by rw [hQ2.out];simp [Xjo,bs],Below.trans hE hb1⟩
   ·have b1:((l[k].toNat:Int) == 47)=false:=by rw [XvM];omega
    by_cases h32:l[k].toNat < 32
    ·have hQ2:Hid (sla (l.drop 1)=none):=Lib.hid (by rw [hQ.out,hd.out,Xil _ _ h32];rfl)
     clear hQ hd
     go_wp2_with fail
     go_ret3
     exact ⟨by rw [hQ2.out];simp [Xjo,Xco],hE⟩
    ·by_cases h92:l[k].toNat=92
     ·have b2:((l[k].toNat:Int) == 92)=true:=by rw [beq_iff_eq];omega
      by_cases hlt2:k+1 < l.length
      ·have hd2:=Lib.hid (Xcw hlt2)
       by_cases hd32:l[k+1].toNat < 32
       ·have hQ2:Hid (sla (l.drop 1)=none):=Lib.hid (by rw [hQ.out,hd.out,hd2.out,Xf4 _ _ _ h92 hd32];rfl)
        clear hQ hd hd2
        have b3:((k:Int)+1 == (l.length:Int))=false:=by rw [XvM];omega
        go_wp2_with fail
        go_ret3
        exact ⟨by rw [hQ2.out];simp [Xjo,Xco],hE⟩
       ·by_cases hd47:l[k+1].toNat=47
        ·have hQ2:Hid (sla (l.drop 1)=(sla (l.drop (k+2))).map fun x=>((out++[l[k+1]])++x.1,(k+2 - 1)+x.2)):=Lib.hid (by
          rw [hQ.out,hd.out,hd2.out,XgK _ _ _ h92 hd47,Option.map_map]
          congr 1
          funext y
          simp only [Function.comp,List.append_assoc,List.singleton_append,Prod.mk.injEq,true_and]
          omega)
         clear hQ hd hd2
         have b3:((k:Int)+1 == (l.length:Int))=false:=by rw [XvM];omega
         have b4:((l[k+1].toNat:Int) != 47)=false:=by rw [bne_eq_false_iff_eq];omega
         clear hd47 h92
         go_wp2_with fail
         refine Calls.mono (Xd5 w.heap.size w.heap.size (Lib.byteCells out) l[k+1].toNat _ hB (by omega) hz) ?_
         rintro e w1 ⟨rfl,hB2,hb2⟩
         rw [Xbq] at hB2
         go_wp2_with fail
         go_roundw
         case rel=>exact ⟨k+2,out++[l[k+1]],by omega,by omega,by go_num,.inr hB2,Below.trans hE hb2,by simp;omega,hQ2⟩
         case measure=>simp [intOf];omega
        ·have hQ2:Hid (sla (l.drop 1)=(sla (l.drop (k+2))).map fun x=>((out++[l[k]]++[l[k+1]])++x.1,(k+2 - 1)+x.2)):=Lib.hid (by
          rw [hQ.out,hd.out,hd2.out,XgN _ _ _ h92 (by omega) hd47,Option.map_map]
          congr 1
          funext y
          simp only [Function.comp,List.append_assoc,List.singleton_append,XvG,XvF,Prod.mk.injEq,true_and]
          omega)
         clear hQ hd hd2
         have b3:((k:Int)+1 == (l.length:Int))=false:=by rw [XvM];omega
         have b4:((l[k+1].toNat:Int) != 47)=true:=by rw [bne_iff_ne];omega
         have e92:Lib.byteCells out++[.int .u8 92]=Lib.byteCells (out++[l[k]]):=by rw [←Xbq,h92];rfl
         clear hd47 h92
         go_wp2_with fail
         refine Calls.mono (Xd5 w.heap.size w.heap.size (Lib.byteCells out) 92 _ hB (by omega) hz) ?_
         rintro e w1 ⟨rfl,hB2,hb2⟩
         rw [e92] at hB2
         have hz1:w.heap.size≤w1.heap.size:=Nat.le_trans hz hb2.size
         have hbl1:(Lib.byteCells (out++[l[k]])).length=out.length+1:=by simp [Lib.byteCells]
         go_wp2_with fail
         refine Calls.mono (Xd5 w.heap.size w.heap.size (Lib.byteCells (out++[l[k]])) l[k+1].toNat _ (.inr hB2) (by omega) hz1) ?_
         rintro e w2 ⟨rfl,hB3,hb3⟩
         rw [Xbq] at hB3
         go_wp2_with fail
         go_roundw
         case rel=>exact ⟨k+2,out++[l[k]]++[l[k+1]],by omega,by omega,by go_num,.inr hB3,Below.trans (Below.trans hE hb2) hb3,by simp;omega,hQ2⟩
         case measure=>simp [intOf];omega
      ·have hQ2:Hid (sla (l.drop 1)=none):=Lib.hid (by rw [hQ.out,hd.out,List.drop_eq_nil_of_le (by omega),Xf5 _ h92];rfl)
       clear hQ hd
       have b3:((k:Int)+1 == (l.length:Int))=true:=by rw [beq_iff_eq];omega
       go_wp2_with fail
       go_ret3
       exact ⟨by rw [hQ2.out];simp [Xjo,Xco],hE⟩
     ·have hQ2:Hid (sla (l.drop 1)=(sla (l.drop (k+1))).map fun x=>((out++[l[k]])++x.1,(k+1 - 1)+x.2)):=Lib.hid (by
       rw [hQ.out,hd.out,XgL _ _ h47 (by omega) h92,Option.map_map]
       congr 1
       funext y
       simp only [Function.comp,List.append_assoc,List.singleton_append,Prod.mk.injEq,true_and]
       omega)
      clear hQ hd
      have b2:((l[k].toNat:Int) == 92)=false:=by rw [XvM];omega
      go_wp2_with (go_at_call 34;refine (Xd5 w.heap.size w.heap.size (Lib.byteCells out) l[k].toNat _ hB (by omega) hz).mono ?_;rintro e w1 ⟨rfl,hB2,hb2⟩)
      rw [Xbq] at hB2
      go_roundw
      case rel=>exact ⟨k+1,out++[l[k]],by omega,by omega,by go_num,.inr hB2,Below.trans hE hb2,by simp;omega,hQ2⟩
      case measure=>simp [intOf];omega
  ·have hQ2:Hid (sla (l.drop 1)=none):=Lib.hid (by rw [hQ.out,List.drop_eq_nil_of_le (by omega),Xim];rfl)
   clear hQ
   go_wp2_with fail
   go_ret3
   exact ⟨by rw [hQ2.out];simp [Xjo,Xco],hE⟩
theorem XoP (l:List UInt8) (h0:0 < l.length) (hl:l.length≤100000) (H:List Hp):Xa3 Tryz.prog 126 H [.x (.string (bs l))] (fun r H'=>r=.x (Xjo (sla (l.drop 1)))∧H'=H):=
 Xb9 (args:=[.string (bs l)]) (fun w=>XoO l w h0 hl) H
theorem Xdl {P:Program} {o:Oper} {ρ:Operand→AV} {H:List Hp} (t:TypeId) (x:Operand) (lo hi:Option Operand) (l h:Nat) (s:List UInt8) (ho:o.op=.slice t x lo hi none) (hx:ρ x=.x (.string (bs s))) (ht:P.underlying t=some .string)
  (hlo:(lo=none∧l=0)∨∃y k,lo=some y∧ρ y=.x (.int k l)) (hhi:(hi=none∧h=s.length)∨∃y k,hi=some y∧ρ y=.x (.int k h)) (h1:l≤h) (h2:h≤s.length):XlT P o ρ H (.x (.string (bs ((s.take h).drop l)))):=by
 intro V a w r
 have he:(bs s).extract l h=bs ((s.take h).drop l):=by
  apply ByteArray.ext;apply Array.toList_inj.1
  simp [bs,ByteArray.data_extract,List.extract_eq_take_drop,List.drop_take]
 have hrun:∀w',(Instr.sliceAt t (.string (bs s)) (lo.map a.eval) (hi.map a.eval) none).run P w'=.ok (.string (bs ((s.take h).drop l))) w':=by
  intro w'
  rw [←he]
  rcases hlo with ⟨rfl,rfl⟩|⟨y,k,rfl,hy⟩<;>rcases hhi with ⟨rfl,rfl⟩|⟨z,k',rfl,hz⟩<;>
   (try rw [Option.map_some,r.evx (by simp [ho,Op.operands]) hy])<;>(try rw [Option.map_some,r.evx (by simp [ho,Op.operands]) hz])<;>
   simp [Instr.sliceAt,run_underlying ht,Instr.slice,Instr.sliceBounds,Instr.sliceBound,asIntOf,h1,h2]
 refine ⟨.string (bs ((s.take h).drop l)),fun w'=>?_,by rw [Den]⟩
 simp [execOp,ho,r.evx (by simp [ho,Op.operands]) hx,hrun]
def Xm0:Except Int (Int × List UInt8 × Nat)→AV
 | .ok x=>.tup [.x (.int .i64 x.1),.x (.string (bs x.2.1)),.x (.int .i64 (x.2.2:Nat)),.x .nilIface]
 | .error e=>.tup [.x (.int .i64 0),.x (.string (bs [])),.x (.int .i64 0),.x (.iface 103 (.int .i64 e))]
theorem XmT (c:UInt8) (r:List UInt8) (hl:r.length≤50000):Xa3 Tryz.prog 84 [] [.x (.string (bs (c :: r)))] (fun q H'=>q=Xm0 (one (c :: r))∧H'=[]):=by
 have ht:=Xhl c
 have hd:=Xgt c
 have hw:=XrB 123 Tryz.f123 Xcq Tryz.func123 (by decide) rfl Xqc (c :: r) (by simp;omega)
 have hg:=XrB 124 Tryz.f124 Xbi Tryz.func124 (by decide) rfl Xgt (c :: r) (by simp;omega)
 have hq:=XqN (c :: r) (by simp) (by simp;omega) []
 have hp:=XoP (c :: r) (by simp) (by simp;omega) []
 simp only [List.drop_succ_cons,List.drop_zero] at hq hp
 have hwl:=XhC Xcq (c :: r)
 have hgl:=XhC Xbi (c :: r)
 simp only [Xvy] at hwl hgl
 refine XaD Tryz.func84 rfl ?_
 simp only [Tryz.ntmps84,Xvy,XvB,XvC,XvD,XvG,XvF,Nat.reduceAdd,Nat.reduceSub]
 (repeat' (first|with_reducible (first|refine Xag ?_|refine Xac ?_|refine Xao ?_|refine Xar ?_|refine Xau ?_|refine Xae ?_|refine Xaa ?_|refine Xax ?_|refine Xaj ?_|refine Xav ?_)|(refine Xak _ rfl (fun h=>?_) (fun h=>?_)<;>((try (simp only [whn] at h));skip))|((first|apply Xad rfl|apply Xa8 _ _ rfl rfl rfl);(case h=>((try (intro (hp:(_:Bool)=true);((try simp only [Bool.and_eq_true,Bool.not_eq_true'] at hp);(try simp only [hp,wte]);(try simp only [whn] at hp))));(first|(apply Xab 0 rfl;(first|exact Xap _ rfl|exact Xan _ rfl))|(apply Xab 1 rfl;(first|exact XdJ _ _ _ _ _ rfl rfl rfl rfl|exact XkZ _ _ _ _ _ rfl rfl rfl rfl))|(apply Xab 8 rfl;(exact Xbb _ _ _ _ _ 0 _ rfl rfl rfl (by kernel_rfl) rfl (by simp;first|done|fail)))|(apply Xab 11 rfl;(first|exact Xay 121 Tryz.f121 _ _ rfl rfl Tryz.func121 (by decide) rfl (VwL.refl _ _) (ht)|exact Xay 124 Tryz.f124 _ _ rfl rfl Tryz.func124 (by decide) rfl (VwL.refl _ _) (hd)|exact Xay 122 Tryz.f122 _ _ rfl rfl Tryz.func122 (by decide) rfl (VwL.refl _ _) (hw)|exact Xay 122 Tryz.f122 _ _ rfl rfl Tryz.func122 (by decide) rfl (VwL.refl _ _) (hg)|exact Xay 125 Tryz.f125 _ _ rfl rfl Tryz.func125 (by decide) rfl (VwL.refl _ _) (hq)|exact Xay 126 Tryz.f126 _ _ rfl rfl Tryz.func126 (by decide) rfl (VwL.refl _ _) (hp)))|(apply XaC;(case hs=>(intro _ _ h;cases h));(case hx=>rfl);(case hrun=>(intro w;simp [wtb,AV.val,go_sem];skip;rfl))))));(case hT=>((try simp only [wtn]);rfl)))|fail))
 ·refine Xfd mixed ?_
  (first|(apply Xcd 0 rfl rfl (by kernel_rfl) (by intro c T H hp;simp [XaO,Xat,XaT,Xbr] at hp);(case h=>(exact Xbd _ rfl)))|fail);(apply Xcc;(case hT=>((try simp (disch:=first|omega|fail) only [wtn,List.drop_zero,Xvz,Xvw,Xvx,XvA,XvE,Nat.reduceAdd,Nat.reduceMul,Nat.reduceSub,↓reduceIte,Nat.reduceEqDiff]);rfl));(case hH=>rfl));(first|(apply Xcd 1 rfl rfl (by kernel_rfl) (by intro c T H hp;simp [XaO,Xat,XaT,Xbr] at hp);(case h=>(exact Xbd _ rfl)))|fail);(apply Xcc;(case hT=>((try simp (disch:=first|omega|fail) only [wtn,List.drop_zero,Xvz,Xvw,Xvx,XvA,XvE,Nat.reduceAdd,Nat.reduceMul,Nat.reduceSub,↓reduceIte,Nat.reduceEqDiff]);rfl));(case hH=>rfl));(first|(apply Xcd 2 rfl rfl (by kernel_rfl) (by intro c T H hp;simp [XaO,Xat,XaT,Xbr] at hp);(case h=>(exact Xdl _ _ _ _ _ _ _ rfl rfl (by kernel_rfl) (by first|exact .inl ⟨rfl,rfl⟩|fail) (by first|exact .inr ⟨_,_,rfl,rfl⟩|fail) (by simp;done) (by simp;first|omega|fail))))|fail);(apply Xcc;(case hT=>((try simp (disch:=first|omega|fail) only [wtn,List.drop_zero,Xvz,Xvw,Xvx,XvA,XvE,Nat.reduceAdd,Nat.reduceMul,Nat.reduceSub,↓reduceIte,Nat.reduceEqDiff]);rfl));(case hH=>rfl));(first|(apply Xcd 3 rfl rfl (by kernel_rfl) (by intro c T H hp;simp [XaO,Xat,XaT,Xbr] at hp);(case h=>(exact Xbd _ rfl)))|fail);(apply Xcc;(case hT=>((try simp (disch:=first|omega|fail) only [wtn,List.drop_zero,Xvz,Xvw,Xvx,XvA,XvE,Nat.reduceAdd,Nat.reduceMul,Nat.reduceSub,↓reduceIte,Nat.reduceEqDiff]);rfl));(case hH=>rfl))
  refine Xj0 ?_
  (refine XdK 4 (by decide +kernel) rfl rfl ?_;(first|(apply Xba;(case h=>(apply Xab 0 rfl;(exact Xan _ rfl)));(apply XbZ;(case hT=>((try simp only [wtn]);rfl));(case hH=>rfl)))|fail));(refine XdK 5 (by decide +kernel) rfl rfl ?_;(first|(apply Xba;(case h=>(apply Xab 0 rfl;(exact Xan _ rfl)));(apply XbZ;(case hT=>((try simp only [wtn]);rfl));(case hH=>rfl)))|fail));(refine XdK 6 (by decide +kernel) rfl rfl ?_;(first|(apply Xba;(case h=>(apply Xab 0 rfl;(exact Xan _ rfl)));(apply XbZ;(case hT=>((try simp only [wtn]);rfl));(case hH=>rfl)))|fail));(refine XdK 7 (by decide +kernel) rfl rfl ?_;(first|(apply Xba;(case h=>(apply Xab 0 rfl;(exact Xan _ rfl)));(apply XbZ;(case hT=>((try simp only [wtn]);rfl));(case hH=>rfl)))|fail))
  refine Xge (by decide +kernel) ?_
  (repeat' (first|with_reducible (first|refine Xar ?_|refine Xaa ?_|refine Xax ?_|refine Xav ?_)|fail))
  rw [Xlr c r (by assumption)]
  exact Xaf _ _ (Xpx rfl (RV.tmp _) (RV.tmp _) (RV.tmp _) (RV.tmp _) (XaH.mk' [] [] (Xvv _) (XaB.refl _ _) (VwL.refl _ _))) ⟨by (simp only [Xm0];(first|rfl|fail)),rfl⟩
 ·rw [Xlq c r (by assumption) (by assumption) (by first|omega|fail)]
  exact Xaf _ _ (Xpx rfl (RV.tmp _) (RV.tmp _) (RV.tmp _) (RV.tmp _) (XaH.mk' [] [] (Xvv _) (XaB.refl _ _) (VwL.refl _ _))) ⟨by (simp only [Xm0];(first|rfl|fail)),rfl⟩
 ·skip
  refine Xfd mixed ?_
  (first|(apply Xcd 0 rfl rfl (by kernel_rfl) (by intro c T H hp;simp [XaO,Xat,XaT,Xbr] at hp);(case h=>(exact Xbd _ rfl)))|fail);(apply Xcc;(case hT=>((try simp (disch:=first|omega|fail) only [wtn,List.drop_zero,Xvz,Xvw,Xvx,XvA,XvE,Nat.reduceAdd,Nat.reduceMul,Nat.reduceSub,↓reduceIte,Nat.reduceEqDiff]);rfl));(case hH=>rfl));(first|(apply Xcd 1 rfl rfl (by kernel_rfl) (by intro c T H hp;simp [XaO,Xat,XaT,Xbr] at hp);(case h=>(exact Xbd _ rfl)))|fail);(apply Xcc;(case hT=>((try simp (disch:=first|omega|fail) only [wtn,List.drop_zero,Xvz,Xvw,Xvx,XvA,XvE,Nat.reduceAdd,Nat.reduceMul,Nat.reduceSub,↓reduceIte,Nat.reduceEqDiff]);rfl));(case hH=>rfl));(first|(apply Xcd 2 rfl rfl (by kernel_rfl) (by intro c T H hp;simp [XaO,Xat,XaT,Xbr] at hp);(case h=>(exact Xdl _ _ _ _ _ _ _ rfl rfl (by kernel_rfl) (by first|exact .inl ⟨rfl,rfl⟩|fail) (by first|exact .inr ⟨_,_,rfl,rfl⟩|fail) (by simp;done) (by simp;first|omega|fail))))|fail);(apply Xcc;(case hT=>((try simp (disch:=first|omega|fail) only [wtn,List.drop_zero,Xvz,Xvw,Xvx,XvA,XvE,Nat.reduceAdd,Nat.reduceMul,Nat.reduceSub,↓reduceIte,Nat.reduceEqDiff]);rfl));(case hH=>rfl));(first|(apply Xcd 3 rfl rfl (by kernel_rfl) (by intro c T H hp;simp [XaO,Xat,XaT,Xbr] at hp);(case h=>(exact Xbd _ rfl)))|fail);(apply Xcc;(case hT=>((try simp (disch:=first|omega|fail) only [wtn,List.drop_zero,Xvz,Xvw,Xvx,XvA,XvE,Nat.reduceAdd,Nat.reduceMul,Nat.reduceSub,↓reduceIte,Nat.reduceEqDiff]);rfl));(case hH=>rfl))
  refine Xj0 ?_
  (refine XdK 4 (by decide +kernel) rfl rfl ?_;(first|(apply Xba;(case h=>(apply Xab 0 rfl;(exact Xan _ rfl)));(apply XbZ;(case hT=>((try simp only [wtn]);rfl));(case hH=>rfl)))|fail));(refine XdK 5 (by decide +kernel) rfl rfl ?_;(first|(apply Xba;(case h=>(apply Xab 0 rfl;(exact Xan _ rfl)));(apply XbZ;(case hT=>((try simp only [wtn]);rfl));(case hH=>rfl)))|fail));(refine XdK 6 (by decide +kernel) rfl rfl ?_;(first|(apply Xba;(case h=>(apply Xab 0 rfl;(exact Xan _ rfl)));(apply XbZ;(case hT=>((try simp only [wtn]);rfl));(case hH=>rfl)))|fail));(refine XdK 7 (by decide +kernel) rfl rfl ?_;(first|(apply Xba;(case h=>(apply Xab 0 rfl;(exact Xan _ rfl)));(apply XbZ;(case hT=>((try simp only [wtn]);rfl));(case hH=>rfl)))|fail))
  refine Xge (by decide +kernel) ?_
  (repeat' (first|with_reducible (first|refine Xar ?_|refine Xaa ?_|refine Xax ?_|refine Xav ?_)|fail))
  rw [XoK c r (by assumption) (by assumption) (by first|omega|fail)]
  exact Xaf _ _ (Xpx rfl (RV.tmp _) (RV.tmp _) (RV.tmp _) (RV.tmp _) (XaH.mk' [] [] (Xvv _) (XaB.refl _ _) (VwL.refl _ _))) ⟨by (simp only [Xm0];(first|rfl|fail)),rfl⟩
 ·skip
  cases hqq:quo r with
  | none=>
    simp only [Xjo]
    (repeat' (first|with_reducible (first|refine Xag ?_|refine Xac ?_|refine Xar ?_|refine Xae ?_|refine Xaa ?_|refine Xax ?_|refine Xav ?_)|(refine Xak _ rfl (fun h=>?_) (fun h=>?_)<;>first|(exact absurd h (by decide))|((try (simp only [] at h));skip))|((apply Xad rfl);(case h=>(first|(apply Xab 0 rfl;(first|exact Xap _ rfl|exact Xan _ rfl))|(apply XaC;(case hs=>(intro _ _ h;cases h));(case hx=>rfl);(case hrun=>(intro w;simp [wtb,AV.val,go_sem];skip;rfl)))));(case hT=>((try simp only [wtn]);rfl)))|fail))
    rw [XkA c r (by assumption) (by assumption) (by omega)]
    simp only [hqq]
    exact Xaf _ _ (Xpx rfl (RV.tmp _) (RV.tmp _) (RV.tmp _) (RV.tmp _) (XaH.mk' [] [] (Xvv _) (XaB.refl _ _) (VwL.refl _ _))) ⟨by (simp only [Xm0];(first|rfl|fail)),rfl⟩
  | some x=>
    simp only [Xjo]
    (repeat' (first|with_reducible (first|refine Xag ?_|refine Xac ?_|refine Xar ?_|refine Xau ?_|refine Xae ?_|refine Xaa ?_|refine Xax ?_|refine Xav ?_)|(refine Xak _ rfl (fun h=>?_) (fun h=>?_)<;>first|(exact absurd h (by decide))|((try (simp only [] at h));skip))|((apply Xad rfl);(case h=>(first|(apply Xab 0 rfl;(first|exact Xap _ rfl|exact Xan _ rfl))|(apply XaC;(case hs=>(intro _ _ h;cases h));(case hx=>rfl);(case hrun=>(intro w;simp [wtb,AV.val,go_sem];skip;rfl)))));(case hT=>((try simp only [wtn]);rfl)))|fail))
    rw [XkA c r (by assumption) (by assumption) (by omega)]
    simp only [hqq]
    exact Xaf _ _ (Xpx rfl (RV.tmp _) (RV.tmp _) (RV.tmp _) (RV.tmp _) (XaH.mk' [] [] (Xvv _) (XaB.refl _ _) (VwL.refl _ _))) ⟨by (simp only [Xm0];(first|rfl|fail)),rfl⟩
 ·cases hqq:sla r with
  | none=>
    simp only [Xjo]
    (repeat' (first|with_reducible (first|refine Xag ?_|refine Xac ?_|refine Xar ?_|refine Xae ?_|refine Xaa ?_|refine Xax ?_|refine Xav ?_)|(refine Xak _ rfl (fun h=>?_) (fun h=>?_)<;>first|(exact absurd h (by decide))|((try (simp only [] at h));skip))|((apply Xad rfl);(case h=>(first|(apply Xab 0 rfl;(first|exact Xap _ rfl|exact Xan _ rfl))|(apply XaC;(case hs=>(intro _ _ h;cases h));(case hx=>rfl);(case hrun=>(intro w;simp [wtb,AV.val,go_sem];skip;rfl)))));(case hT=>((try simp only [wtn]);rfl)))|fail))
    rw [Xkz c r (by assumption) (by assumption) (by omega)]
    simp only [hqq]
    exact Xaf _ _ (Xpx rfl (RV.tmp _) (RV.tmp _) (RV.tmp _) (RV.tmp _) (XaH.mk' [] [] (Xvv _) (XaB.refl _ _) (VwL.refl _ _))) ⟨by (simp only [Xm0];(first|rfl|fail)),rfl⟩
  | some x=>
    simp only [Xjo]
    (repeat' (first|with_reducible (first|refine Xag ?_|refine Xac ?_|refine Xar ?_|refine Xau ?_|refine Xae ?_|refine Xaa ?_|refine Xax ?_|refine Xav ?_)|(refine Xak _ rfl (fun h=>?_) (fun h=>?_)<;>first|(exact absurd h (by decide))|((try (simp only [] at h));skip))|((apply Xad rfl);(case h=>(first|(apply Xab 0 rfl;(first|exact Xap _ rfl|exact Xan _ rfl))|(apply XaC;(case hs=>(intro _ _ h;cases h));(case hx=>rfl);(case hrun=>(intro w;simp [wtb,AV.val,go_sem];skip;rfl)))));(case hT=>((try simp only [wtn]);rfl)))|fail))
    rw [Xkz c r (by assumption) (by assumption) (by omega)]
    simp only [hqq]
    exact Xaf _ _ (Xpx rfl (RV.tmp _) (RV.tmp _) (RV.tmp _) (RV.tmp _) (XaH.mk' [] [] (Xvv _) (XaB.refl _ _) (VwL.refl _ _))) ⟨by (simp only [Xm0];(first|rfl|fail)),rfl⟩
 ·skip
  refine Xfd mixed ?_
  (first|(apply Xcd 0 rfl rfl (by kernel_rfl) (by intro c T H hp;simp [XaO,Xat,XaT,Xbr] at hp);(case h=>(exact Xbd _ rfl)))|fail);(apply Xcc;(case hT=>((try simp (disch:=first|omega|fail) only [wtn,List.drop_zero,Xvz,Xvw,Xvx,XvA,XvE,Nat.reduceAdd,Nat.reduceMul,Nat.reduceSub,↓reduceIte,Nat.reduceEqDiff]);rfl));(case hH=>rfl));(first|(apply Xcd 1 rfl rfl (by kernel_rfl) (by intro c T H hp;simp [XaO,Xat,XaT,Xbr] at hp);(case h=>(exact Xdl _ _ _ _ _ _ _ rfl rfl (by kernel_rfl) (by first|exact .inl ⟨rfl,rfl⟩|fail) (by first|exact .inr ⟨_,_,rfl,rfl⟩|fail) (by simp;done) (by simp;first|done|fail))))|fail);(apply Xcc;(case hT=>((try simp (disch:=first|omega|fail) only [wtn,List.drop_zero,Xvz,Xvw,Xvx,XvA,XvE,Nat.reduceAdd,Nat.reduceMul,Nat.reduceSub,↓reduceIte,Nat.reduceEqDiff]);rfl));(case hH=>rfl))
  refine Xj0 ?_
  (refine XdK 2 (by decide +kernel) rfl rfl ?_;(first|(apply Xba;(case h=>(apply Xab 0 rfl;(exact Xan _ rfl)));(apply XbZ;(case hT=>((try simp only [wtn]);rfl));(case hH=>rfl)))|fail));(refine XdK 3 (by decide +kernel) rfl rfl ?_;(first|(apply Xba;(case h=>(apply Xab 0 rfl;(exact Xan _ rfl)));(apply XbZ;(case hT=>((try simp only [wtn]);rfl));(case hH=>rfl)))|fail));(refine XdK 4 (by decide +kernel) rfl rfl ?_;(first|(apply Xba;(case h=>(apply Xab 0 rfl;(exact Xan _ rfl)));(apply XbZ;(case hT=>((try simp only [wtn]);rfl));(case hH=>rfl)))|fail));(refine XdK 5 (by decide +kernel) rfl rfl ?_;(first|(apply Xba;(case h=>(apply Xab 0 rfl;(exact Xan _ rfl)));(apply XbZ;(case hT=>((try simp only [wtn]);rfl));(case hH=>rfl)))|fail))
  refine Xge (by decide +kernel) ?_
  (repeat' (first|with_reducible (first|refine Xar ?_|refine Xaa ?_|refine Xax ?_|refine Xav ?_)|fail))
  rw [Xe2 c r (by assumption) (by assumption) (by first|omega|fail)]
  exact Xaf _ _ (Xpx rfl (RV.tmp _) (RV.tmp _) (RV.tmp _) (RV.tmp _) (XaH.mk' [] [] (Xvv _) (XaB.refl _ _) (VwL.refl _ _))) ⟨by (simp only [Xm0];(first|rfl|fail)),rfl⟩
 ·rw [XoH c r (by assumption) (by assumption) (by omega) (by omega) (by first|omega|fail)]
  exact Xaf _ _ (Xpx rfl (RV.tmp _) (RV.tmp _) (RV.tmp _) (RV.tmp _) (XaH.mk' [] [] (Xvv _) (XaB.refl _ _) (VwL.refl _ _))) ⟨by (simp only [Xm0];(first|rfl|fail)),rfl⟩
def Xmx (l:List UInt8):Prop:=∀b∈l,b.toNat≠10
theorem XcN:Xmx []:=fun b h=>by cases h
theorem Xbs {c:UInt8} {r:List UInt8} (h:c.toNat≠10) (hr:Xmx r):Xmx (c :: r):=fun b hb=>by
 rcases List.mem_cons.1 hb with rfl|hb
 ·exact h
 ·exact hr b hb
theorem Xqx {a b:List UInt8} (ha:Xmx a) (hb:Xmx b):Xmx (a++b):=fun x hx=>by
 rcases List.mem_append.1 hx with h|h
 ·exact ha x h
 ·exact hb x h
theorem Xlu:∀(l:List UInt8) (p:Nat × Nat),Xmx l→plc p l=(p.1,p.2+l.length)
 | [],p,_=>by simp [plc]
 | c :: r,p,h=>by
   rw [plc,if_neg (h c (List.mem_cons_self ..)),Xlu r _ (fun b hb=>h b (List.mem_cons_of_mem _ hb))]
   simp;omega
theorem Xog {b:UInt8} {n:Nat} (h:XgV b=some n):b.toNat≠10:=by
 unfold XgV at h
 split at h
 ·omega
 ·split at h
  ·omega
  ·split at h
   ·omega
   ·cases h
theorem XnV {l:List UInt8} {b:UInt8} {n:Nat} (h:Xeo l=some (b,n)):Xmx (l.take n):=by
 unfold Xeo at h
 split at h
 ·cases h
 ·rename_i d r
  split at h
  ·cases h;exact Xbs (by omega) XcN
  ·split at h
   ·cases h;exact Xbs (by omega) XcN
   ·split at h
    ·cases h;exact Xbs (by omega) XcN
    ·split at h
     ·split at h
      ·split at h
       ·rename_i h1 h2
        cases h;exact Xbs (by omega) (Xbs (Xog h1) (Xbs (Xog h2) XcN))
       ·cases h
      ·cases h
     ·cases h
theorem XoN {l:List UInt8} {b:UInt8} {n:Nat} (h:part l=some (b,n)):Xmx (l.take n):=by
 unfold part at h
 split at h
 ·cases h
 ·rename_i c r
  split at h
  ·cases h
  ·split at h
   ·cases h;exact Xbs (by omega) XcN
   ·cases he:Xeo r with
    | none=>rw [he] at h;cases h
    | some x=>rw [he] at h;cases h;rw [List.take_succ_cons];exact Xbs (by omega) (XnV he)
theorem Xly (l:List UInt8):∀x,quo l=some x→Xmx (l.take x.2):=by
 match h:l with
 | []=>intro x hx;rw [Xig] at hx;cases hx
 | c :: r=>
   intro x hx
   by_cases h1:c.toNat=34
   ·rw [XgE c r h1] at hx;cases hx;exact Xbs (by omega) XcN
   ·cases hp:part (c :: r) with
    | none=>rw [Xjp c r h1 hp] at hx;cases hx
    | some y=>
      obtain ⟨b,n⟩:=y
      have hle:=Xid hp
      rw [Xeg c r b n h1 hp] at hx
      cases hq:quo ((c :: r).drop n) with
      | none=>rw [hq] at hx;cases hx
      | some z=>
        have:=Xly ((c :: r).drop n) z hq
        rw [hq] at hx;cases hx
        simp only
        rw [List.take_add]
        exact Xqx (XoN hp) this
termination_by l.length
decreasing_by subst h;simp;omega
theorem Xf6 (l:List UInt8):∀x,sla l=some x→Xmx (l.take x.2):=by
 match h:l with
 | []=>intro x hx;rw [Xim] at hx;cases hx
 | c :: r=>
   intro x hx
   by_cases h1:c.toNat=47
   ·rw [Xfu c r h1] at hx;cases hx;exact Xbs (by omega) XcN
   by_cases h2:c.toNat < 32
   ·rw [Xil c r h2] at hx;cases hx
   by_cases h3:c.toNat=92
   ·match r,hx with
    | [],hx=>rw [Xf5 c h3] at hx;cases hx
    | d :: r,hx=>
      by_cases h4:d.toNat < 32
      ·rw [Xf4 c d r h3 h4] at hx;cases hx
      by_cases h5:d.toNat=47
      ·rw [XgK c d r h3 h5] at hx
       cases hq:sla r with
       | none=>rw [hq] at hx;cases hx
       | some z=>have:=Xf6 r z hq;rw [hq] at hx;cases hx;simp only [Nat.add_comm 2,List.take_succ_cons];exact Xbs (by omega) (Xbs (by omega) this)
      ·rw [XgN c d r h3 (by omega) h5] at hx
       cases hq:sla r with
       | none=>rw [hq] at hx;cases hx
       | some z=>have:=Xf6 r z hq;rw [hq] at hx;cases hx;simp only [Nat.add_comm 2,List.take_succ_cons];exact Xbs (by omega) (Xbs (by omega) this)
   ·rw [XgL c r h1 (by omega) h3] at hx
    cases hq:sla r with
    | none=>rw [hq] at hx;cases hx
    | some z=>have:=Xf6 r z hq;rw [hq] at hx;cases hx;simp only [Nat.add_comm 1,List.take_succ_cons];exact Xbs (by omega) this
termination_by l.length
decreasing_by
 all_goals subst h;simp;try omega
theorem Xin (p:UInt8→Bool) (hp:∀b,p b=true→b.toNat≠10):∀l:List UInt8,Xmx (l.take (spn p l))
 | []=>XcN
 | c :: r=>by
   cases h:p c with
   | false=>rw [XlJ _ _ _ h];exact XcN
   | true=>rw [XeA _ _ _ h,List.take_succ_cons];exact Xbs (hp c h) (Xin p hp r)
theorem XqB {l:List UInt8} {x:Int × List UInt8 × Nat} (h:one l=.ok x):Xmx (l.take x.2.2):=by
 cases l with
 | nil=>simp [one] at h
 | cons c r=>
   simp only [one] at h
   split at h
   ·cases h
    exact Xin Xcq (fun b hb=>by simp only [Xcq,Xbi,Xb6,Bool.or_eq_true,decide_eq_true_eq] at hb;omega) _
   ·split at h
    ·split at h
     ·cases h
     ·cases h
      exact Xin Xbi (fun b hb=>by simp only [Xbi,decide_eq_true_eq] at hb;omega) _
    ·split at h
     ·cases hq:quo r with
      | none=>rw [hq] at h;cases h
      | some y=>rw [hq] at h;cases h;exact Xbs (by omega) (Xly r y hq)
     ·split at h
      ·cases hq:sla r with
       | none=>rw [hq] at h;cases h
       | some y=>rw [hq] at h;cases h;exact Xbs (by omega) (Xf6 r y hq)
      ·split at h
       ·cases h;exact Xbs (by omega) XcN
       ·cases h
theorem XsS {l:List UInt8} {k:Nat} {a:Int} {t:List UInt8} {m:Nat} (h:one (l.drop k)=.ok (a,t,m)):plc (1,1) (l.take (k+m))=((plc (1,1) (l.take k)).1,(plc (1,1) (l.take k)).2+m):=by
 rw [←XfH,Xlu _ _ (XqB h),List.length_take]
 have:=XfG h
 simp only at this
 rw [Nat.min_eq_left this.2.1]
end Go.Proofs.YtdpobjakdplljaaGreatDoor
