import Derived.Test.YtdlblokjfoggpaaGreatDoorW34
import Derived.Test.YtdlblokjfoggpaaGreatDoorW25
import Derived.OwnWalk
import Derived.Test.YtdlblokjfoggpaaGreatDoorW7
import Derived.Test.YtdlblokjfoggpaaGreatDoorW10
import Derived.Test.YtdlblokjfoggpaaGreatDoorW9
import Derived.Test.YtdlblokjfoggpaaGreatDoorW26
/- The program's lexer: quoted. -/
set_option linter.unusedSimpArgs false
set_option linter.unusedVariables false
set_option maxRecDepth 100000
set_option maxHeartbeats 8000000
namespace Go.Proofs.YtdlblokjfoggpaaGreatDoor
open Go.RowKit
theorem XiL (l:List UInt8) (hl:l.length≤1000000) (w:World) (hg:Gw w):Calls Tryz.prog 172 #[.string (bs l)] w fun e w'=>e=.returned (.tuple #[.int .u8 ((Xji l).1.toNat:Nat),.int .i64 ((Xji l).2:Nat)])∧Ext w w':=by
 have h0:DenL (fun _=>False) w [.x (.string (bs l))] [.string (bs l)]:=DenL.cons' (XnM _) DenL.nil'
 have:=XnS l hl (fun _=>False) w [.string (bs l)] (fun _ h=>h.elim) ⟨by simp,List.Pairwise.nil,by simp⟩ (h0.weak fun k hk=>by rcases hk with hk|⟨x,hx,_⟩;exact hk;cases hx) (GL.none hg |>.mono fun k ⟨x,hx,_⟩=>by cases hx)
 refine this.mono fun e w' ⟨r,H',v,⟨hr,_⟩,he,hdv,_,hfr,_⟩=>?_
 subst hr
 rw [Den] at hdv
 obtain ⟨vals,rfl,hd⟩:=hdv
 have e2:=DenL.exact' (l:=[.int .u8 ((Xji l).1.toNat:Nat),.int .i64 ((Xji l).2:Nat)]) hd
 subst e2
 exact ⟨he,Fr.ext ⟨hfr.os,hfr.tape,hfr.output,hfr.size,fun k hk hn=>hfr.block k hk fun ⟨x,hx,_⟩=>by cases hx⟩⟩
theorem Xue {B:Nat} {e:TypeId} {size n:Nat} {v:Value} {bs:List Value} {w w':World} (h:w.ownsRow B e size v n bs) (hE:Ext w w'):w'.ownsRow B e size v n bs:=by
 obtain ⟨h1,h2|⟨g,cap,cur,e1,e2,e3,e4,e5,e6,e7⟩⟩:=h
 ·exact ⟨h1,.inl h2⟩
 ·have hlt:g < w.heap.size:=(Array.getElem?_eq_some_iff.1 e3).1
  exact ⟨h1,.inr ⟨g,cap,cur,e1,e2,by rw [hE.block g hlt];exact e3,e4,e5,e6,e7⟩⟩
theorem XrL {B b:Nat} {p:Value} {bs:List Value} {w w':World} (h:Lib.BuilderAt 265 5 B b p bs w) (hE:Ext w w'):Lib.BuilderAt 265 5 B b p bs w':=by
 obtain ⟨h1,v,h2,h3,h4⟩:=h
 have hlt:b < w.heap.size:=(Array.getElem?_eq_some_iff.1 h2).1
 exact ⟨h1,v,by rw [hE.block b hlt];exact h2,Xue h3 hE,h4⟩
theorem XvP {B b:Nat} {bs:List Value} {w w':World} (h:Lib.IsBuilder 265 5 B b bs w) (hE:Ext w w'):Lib.IsBuilder 265 5 B b bs w':=h.imp (XrL · hE) (XrL · hE)
def Xi4 (x:Option (List UInt8 × Nat)):Value:=match x with|none=>.tuple #[.string (bs []),.int .i64 0,.bool false]|some x=>.tuple #[.string (bs x.1),.int .i64 ((x.2:Nat)+1),.bool true]
theorem Xra (l:List UInt8) (w:World) (hg:Gw w) (h0:0 < l.length) (hl:l.length≤100000):Calls Tryz.prog 153 #[.string (bs l)] w fun e w'=>e=.returned (Xi4 (quo (l.drop 1)))∧Ext w w':=by
 go_enter Tryz.func153,Tryz.ntmps153
 go_wp2_with fail
 go_loopw [6] (fun i wr=>∃(k:Nat) (out:List UInt8),1≤k∧k≤l.length∧i=.int .i64 k∧Lib.IsBuilder 265 5 w.heap.size w.heap.size (Lib.byteCells out) wr∧Ext w wr∧out.length≤k∧Hid (quo (l.drop 1)=(quo (l.drop k)).map fun x=>(out++x.1,(k - 1)+x.2))) (fun i _=>l.length - (intOf i).toNat)
 case atStart=>
  refine ⟨1,[],Nat.le_refl _,h0,rfl,.inl ⟨Nat.le_refl _,.slice none 0 0,by unfold World.alloc;exact Array.getElem?_push_size,⟨rfl,.inl ⟨rfl,rfl⟩⟩,by intro h;cases h⟩,Ext.al _ _,Nat.zero_le _,Lib.hid (by cases quo (l.drop 1)<;>simp)⟩
 case round=>
  obtain ⟨k,out,h1,hk,rfl,hB,hE,hol,hQ⟩:=hrel
  have hz:w.heap.size≤wr.heap.size:=hE.size
  have hbl:(Lib.byteCells out).length=out.length:=by simp [Lib.byteCells]
  by_cases hlt:k < l.length
  ·have hd:=Lib.hid (Xgg hlt)
   by_cases h34:l[k].toNat=34
   ·have hQ2:Hid (quo (l.drop 1)=some (out,k)):=Lib.hid (by rw [hQ.out,hd.out,Xki _ _ h34];simp;omega)
    clear hQ hd
    have b1:((l[k].toNat:Int) == 34)=true:=by rw [beq_iff_eq];omega
    go_wp2_with (go_at_call 171;refine (Builder_String_any w.heap.size w.heap.size out _ hB hz).mono ?_;rintro e w1 ⟨rfl,hb1⟩)
    go_ret3
    exact ⟨by rw [hQ2.out];simp [Xi4,bs],Below.trans hE hb1⟩
   ·have b1:((l[k].toNat:Int) == 34)=false:=by rw [XyF];omega
    by_cases h32:l[k].toNat < 32
    ·have hQ2:Hid (quo (l.drop 1)=none):=Lib.hid (by rw [hQ.out,hd.out,Xlm _ _ h34 (by rw [XeZ,if_pos (.inl h32)])];rfl)
     clear hQ hd
     go_wp2_with fail
     go_ret3
     exact ⟨by rw [hQ2.out];simp [Xi4,Xgd],hE⟩
    ·by_cases h92:l[k].toNat=92
     ·cases hes:Xfx (l.drop (k+1)) with
      | none=>
        have hQ2:Hid (quo (l.drop 1)=none):=Lib.hid (by rw [hQ.out,hd.out,Xlm _ _ h34 (by rw [XeZ,if_neg (by omega),if_neg (by omega),hes];rfl)];rfl)
        clear hQ hd
        have b2:((l[k].toNat:Int) == 92)=true:=by rw [beq_iff_eq];omega
        go_wp2_with fail
        refine Calls.mono (XiL (l.drop (k+1)) (by simp;omega) _ (hg.ext hE)) ?_
        rintro e w1 ⟨rfl,hw1⟩
        rw [Xdl hes]
        go_wp2_with fail
        go_ret3
        exact ⟨by rw [hQ2.out];simp [Xi4,Xgd],hE.tr hw1⟩
      | some x=>
        obtain ⟨b,n⟩:=x
        have hle:=XnT hes
        rw [List.length_drop] at hle
        have hQ2:Hid (quo (l.drop 1)=(quo (l.drop (k+(1+n)))).map fun x=>((out++[b])++x.1,(k+(1+n) - 1)+x.2)):=Lib.hid (by
         rw [hQ.out,hd.out,XfU _ _ b (n+1) h34 (by rw [XeZ,if_neg (by omega),if_neg (by omega),hes];rfl),←hd.out,List.drop_drop,Option.map_map,show k+(n+1)=k+(1+n) by omega]
         congr 1
         funext y
         simp only [Function.comp,List.append_assoc,List.singleton_append,Prod.mk.injEq,true_and]
         omega)
        clear hQ hd
        have b2:((l[k].toNat:Int) == 92)=true:=by rw [beq_iff_eq];omega
        go_wp2_with fail
        refine Calls.mono (XiL (l.drop (k+1)) (by simp;omega) _ (hg.ext hE)) ?_
        rintro e w1 ⟨rfl,hw1⟩
        rw [XdH hes]
        have hB1:=XvP hB hw1
        have hz1:w.heap.size≤w1.heap.size:=Nat.le_trans hz hw1.size
        have b3:((n:Int) == 0)=false:=by rw [XyF];omega
        go_wp2_with (go_at_call 173;refine (XmW w.heap.size w.heap.size (Lib.byteCells out) b.toNat _ hB1 (by omega) hz1).mono ?_;rintro e w2 ⟨rfl,hB2,hb2⟩)
        have hB3:Lib.BuilderAt 265 5 w.heap.size w.heap.size (.pointer (some ⟨w.heap.size,0,none⟩)) (Lib.byteCells (out++[b])) w2:=by
         have:Lib.byteCells (out++[b])=Lib.byteCells out++[.int .u8 b.toNat]:=by simp [Lib.byteCells]
         rw [this];exact hB2
        go_roundw
        case rel=>exact ⟨k+(1+n),out++[b],by omega,by omega,by go_num,.inr hB3,Below.trans (hE.tr hw1) hb2,by simp;omega,hQ2⟩
        case measure=>simp [intOf];omega
     ·have hQ2:Hid (quo (l.drop 1)=(quo (l.drop (k+1))).map fun x=>((out++[l[k]])++x.1,(k+1 - 1)+x.2)):=Lib.hid (by
       rw [hQ.out,hd.out,XfU _ _ l[k] 1 h34 (by rw [XeZ,if_neg (by omega),if_pos h92]),List.drop_succ_cons,List.drop_zero,Option.map_map]
       congr 1
       funext y
       simp only [Function.comp,List.append_assoc,List.singleton_append,Prod.mk.injEq,true_and]
       omega)
      clear hQ hd
      have b2:((l[k].toNat:Int) == 92)=false:=by rw [XyF];omega
      go_wp2_with (go_at_call 173;refine (XmW w.heap.size w.heap.size (Lib.byteCells out) l[k].toNat _ hB (by omega) hz).mono ?_;rintro e w1 ⟨rfl,hB2,hb2⟩)
      have hB3:Lib.BuilderAt 265 5 w.heap.size w.heap.size (.pointer (some ⟨w.heap.size,0,none⟩)) (Lib.byteCells (out++[l[k]])) w1:=by
       have:Lib.byteCells (out++[l[k]])=Lib.byteCells out++[.int .u8 l[k].toNat]:=by simp [Lib.byteCells]
       rw [this];exact hB2
      go_roundw
      case rel=>exact ⟨k+1,out++[l[k]],by omega,by omega,by go_num,.inr hB3,Below.trans hE hb2,by simp;omega,hQ2⟩
      case measure=>simp [intOf];omega
  ·have hQ2:Hid (quo (l.drop 1)=none):=Lib.hid (by rw [hQ.out,List.drop_eq_nil_of_le (by omega),Xkj];rfl)
   clear hQ
   go_wp2_with fail
   go_ret3
   exact ⟨by rw [hQ2.out];simp [Xi4,Xgd],hE⟩
theorem Xrb (l:List UInt8) (h0:0 < l.length) (hl:l.length≤100000) (H:List Hp):Xay Tryz.prog 153 H [.x (.string (bs l))] (fun r H'=>r=.x (Xi4 (quo (l.drop 1)))∧H'=H):=
 Xf2 (args:=[.string (bs l)]) (fun w hg=>Xra l w hg h0 hl) H
theorem Xdt (out:List UInt8) (b:UInt8):Lib.byteCells out++[.int .u8 b.toNat]=Lib.byteCells (out++[b]):=by simp [Lib.byteCells]
theorem XoR (l:List UInt8) (w:World) (h0:0 < l.length) (hl:l.length≤100000):Calls Tryz.prog 154 #[.string (bs l)] w fun e w'=>e=.returned (Xi4 (sla (l.drop 1)))∧Ext w w':=by
 go_enter Tryz.func154,Tryz.ntmps154
 go_wp2_with fail
 go_loopw [6] (fun i wr=>∃(k:Nat) (out:List UInt8),1≤k∧k≤l.length∧i=.int .i64 k∧Lib.IsBuilder 265 5 w.heap.size w.heap.size (Lib.byteCells out) wr∧Ext w wr∧out.length≤k∧Hid (sla (l.drop 1)=(sla (l.drop k)).map fun x=>(out++x.1,(k - 1)+x.2))) (fun i _=>l.length - (intOf i).toNat)
 case atStart=>
  refine ⟨1,[],Nat.le_refl _,h0,rfl,.inl ⟨Nat.le_refl _,.slice none 0 0,by unfold World.alloc;exact Array.getElem?_push_size,⟨rfl,.inl ⟨rfl,rfl⟩⟩,by intro h;cases h⟩,Ext.al _ _,Nat.zero_le _,Lib.hid (by cases sla (l.drop 1)<;>simp)⟩
 case round=>
  obtain ⟨k,out,h1,hk,rfl,hB,hE,hol,hQ⟩:=hrel
  have hz:w.heap.size≤wr.heap.size:=hE.size
  have hbl:(Lib.byteCells out).length=out.length:=by simp [Lib.byteCells]
  by_cases hlt:k < l.length
  ·have hd:=Lib.hid (Xgg hlt)
   by_cases h47:l[k].toNat=47
   ·have hQ2:Hid (sla (l.drop 1)=some (out,k)):=Lib.hid (by rw [hQ.out,hd.out,Xku _ _ h47];simp;omega)
    clear hQ hd
    have b1:((l[k].toNat:Int) == 47)=true:=by rw [beq_iff_eq];omega
    go_wp2_with (go_at_call 171;refine (Builder_String_any w.heap.size w.heap.size out _ hB hz).mono ?_;rintro e w1 ⟨rfl,hb1⟩)
    go_ret3
    exact ⟨by rw [hQ2.out];simp [Xi4,bs],Below.trans hE hb1⟩
   ·have b1:((l[k].toNat:Int) == 47)=false:=by rw [XyF];omega
    by_cases h32:l[k].toNat < 32
    ·have hQ2:Hid (sla (l.drop 1)=none):=Lib.hid (by rw [hQ.out,hd.out,Xkt _ _ h32];rfl)
     clear hQ hd
     go_wp2_with fail
     go_ret3
     exact ⟨by rw [hQ2.out];simp [Xi4,Xgd],hE⟩
    ·by_cases h92:l[k].toNat=92
     ·have b2:((l[k].toNat:Int) == 92)=true:=by rw [beq_iff_eq];omega
      by_cases hlt2:k+1 < l.length
      ·have hd2:=Lib.hid (Xgg hlt2)
       by_cases hd32:l[k+1].toNat < 32
       ·have hQ2:Hid (sla (l.drop 1)=none):=Lib.hid (by rw [hQ.out,hd.out,hd2.out,Xh6 _ _ _ h92 hd32];rfl)
        clear hQ hd hd2
        have b3:((k:Int)+1 == (l.length:Int))=false:=by rw [XyF];omega
        go_wp2_with fail
        go_ret3
        exact ⟨by rw [hQ2.out];simp [Xi4,Xgd],hE⟩
       ·by_cases hd47:l[k+1].toNat=47
        ·have hQ2:Hid (sla (l.drop 1)=(sla (l.drop (k+2))).map fun x=>((out++[l[k+1]])++x.1,(k+2 - 1)+x.2)):=Lib.hid (by
          rw [hQ.out,hd.out,hd2.out,Xkv _ _ _ h92 hd47,Option.map_map]
          congr 1
          funext y
          simp only [Function.comp,List.append_assoc,List.singleton_append,Prod.mk.injEq,true_and]
          omega)
         clear hQ hd hd2
         have b3:((k:Int)+1 == (l.length:Int))=false:=by rw [XyF];omega
         have b4:((l[k+1].toNat:Int) != 47)=false:=by rw [bne_eq_false_iff_eq];omega
         clear hd47 h92
         go_wp2_with fail
         refine Calls.mono (XmW w.heap.size w.heap.size (Lib.byteCells out) l[k+1].toNat _ hB (by omega) hz) ?_
         rintro e w1 ⟨rfl,hB2,hb2⟩
         rw [Xdt] at hB2
         go_wp2_with fail
         go_roundw
         case rel=>exact ⟨k+2,out++[l[k+1]],by omega,by omega,by go_num,.inr hB2,Below.trans hE hb2,by simp;omega,hQ2⟩
         case measure=>simp [intOf];omega
        ·have hQ2:Hid (sla (l.drop 1)=(sla (l.drop (k+2))).map fun x=>((out++[l[k]]++[l[k+1]])++x.1,(k+2 - 1)+x.2)):=Lib.hid (by
          rw [hQ.out,hd.out,hd2.out,Xky _ _ _ h92 (by omega) hd47,Option.map_map]
          congr 1
          funext y
          simp only [Function.comp,List.append_assoc,List.singleton_append,Xyz,Xyy,Prod.mk.injEq,true_and]
          omega)
         clear hQ hd hd2
         have b3:((k:Int)+1 == (l.length:Int))=false:=by rw [XyF];omega
         have b4:((l[k+1].toNat:Int) != 47)=true:=by rw [bne_iff_ne];omega
         have e92:Lib.byteCells out++[.int .u8 92]=Lib.byteCells (out++[l[k]]):=by rw [←Xdt,h92];rfl
         clear hd47 h92
         go_wp2_with fail
         refine Calls.mono (XmW w.heap.size w.heap.size (Lib.byteCells out) 92 _ hB (by omega) hz) ?_
         rintro e w1 ⟨rfl,hB2,hb2⟩
         rw [e92] at hB2
         have hz1:w.heap.size≤w1.heap.size:=Nat.le_trans hz hb2.size
         have hbl1:(Lib.byteCells (out++[l[k]])).length=out.length+1:=by simp [Lib.byteCells]
         go_wp2_with fail
         refine Calls.mono (XmW w.heap.size w.heap.size (Lib.byteCells (out++[l[k]])) l[k+1].toNat _ (.inr hB2) (by omega) hz1) ?_
         rintro e w2 ⟨rfl,hB3,hb3⟩
         rw [Xdt] at hB3
         go_wp2_with fail
         go_roundw
         case rel=>exact ⟨k+2,out++[l[k]]++[l[k+1]],by omega,by omega,by go_num,.inr hB3,Below.trans (Below.trans hE hb2) hb3,by simp;omega,hQ2⟩
         case measure=>simp [intOf];omega
      ·have hQ2:Hid (sla (l.drop 1)=none):=Lib.hid (by rw [hQ.out,hd.out,List.drop_eq_nil_of_le (by omega),Xh7 _ h92];rfl)
       clear hQ hd
       have b3:((k:Int)+1 == (l.length:Int))=true:=by rw [beq_iff_eq];omega
       go_wp2_with fail
       go_ret3
       exact ⟨by rw [hQ2.out];simp [Xi4,Xgd],hE⟩
     ·have hQ2:Hid (sla (l.drop 1)=(sla (l.drop (k+1))).map fun x=>((out++[l[k]])++x.1,(k+1 - 1)+x.2)):=Lib.hid (by
       rw [hQ.out,hd.out,Xkx _ _ h47 (by omega) h92,Option.map_map]
       congr 1
       funext y
       simp only [Function.comp,List.append_assoc,List.singleton_append,Prod.mk.injEq,true_and]
       omega)
      clear hQ hd
      have b2:((l[k].toNat:Int) == 92)=false:=by rw [XyF];omega
      go_wp2_with (go_at_call 173;refine (XmW w.heap.size w.heap.size (Lib.byteCells out) l[k].toNat _ hB (by omega) hz).mono ?_;rintro e w1 ⟨rfl,hB2,hb2⟩)
      rw [Xdt] at hB2
      go_roundw
      case rel=>exact ⟨k+1,out++[l[k]],by omega,by omega,by go_num,.inr hB2,Below.trans hE hb2,by simp;omega,hQ2⟩
      case measure=>simp [intOf];omega
  ·have hQ2:Hid (sla (l.drop 1)=none):=Lib.hid (by rw [hQ.out,List.drop_eq_nil_of_le (by omega),Xkw];rfl)
   clear hQ
   go_wp2_with fail
   go_ret3
   exact ⟨by rw [hQ2.out];simp [Xi4,Xgd],hE⟩
theorem XoS (l:List UInt8) (h0:0 < l.length) (hl:l.length≤100000) (H:List Hp):Xay Tryz.prog 154 H [.x (.string (bs l))] (fun r H'=>r=.x (Xi4 (sla (l.drop 1)))∧H'=H):=
 Xfb (args:=[.string (bs l)]) (fun w=>XoR l w h0 hl) H
theorem Xdd {P:Program} {o:Oper} {ρ:Operand→AV} {H:List Hp} (t:TypeId) (x:Operand) (lo hi:Option Operand) (l h:Nat) (s:List UInt8) (ho:o.op=.slice t x lo hi none) (hx:ρ x=.x (.string (bs s))) (ht:P.underlying t=some .string)
  (hlo:(lo=none∧l=0)∨∃y k,lo=some y∧ρ y=.x (.int k l)) (hhi:(hi=none∧h=s.length)∨∃y k,hi=some y∧ρ y=.x (.int k h)) (h1:l≤h) (h2:h≤s.length):XeE P o ρ H (.x (.string (bs ((s.take h).drop l)))):=by
 intro V a w r
 have he:(bs s).extract l h=bs ((s.take h).drop l):=by
  apply ByteArray.ext;apply Array.toList_inj.1
  simp [bs,ByteArray.data_extract,List.extract_eq_take_drop,List.drop_take]
 have hrun:∀w',(Instr.sliceAt t (.string (bs s)) (lo.map a.eval) (hi.map a.eval) none).run P w'=.ok (.string (bs ((s.take h).drop l))) w':=by
  intro w'
  rw [←he]
  rcases hlo with ⟨rfl,rfl⟩|⟨y,k,rfl,hy⟩<;>rcases hhi with ⟨rfl,rfl⟩|⟨z,k',rfl,hz⟩<;>
   (try rw [Option.map_some,r.evx (by simp [ho,Op.operands]) hy])<;>(try rw [Option.map_some,r.evx (by simp [ho,Op.operands]) hz])<;>
   simp [Instr.sliceAt,run_underlying ht,Instr.slice,Instr.sliceBounds,Instr.sliceBound,asIntOf,h1,h2]
 refine ⟨.string (bs ((s.take h).drop l)),fun w'=>?_,by rw [Den]⟩
 simp [execOp,ho,r.evx (by simp [ho,Op.operands]) hx,hrun]
def Xm2:Except Int (Int × List UInt8 × Nat)→AV
 | .ok x=>.tup [.x (.int .i64 x.1),.x (.string (bs x.2.1)),.x (.int .i64 (x.2.2:Nat)),.x .nilIface]
 | .error e=>.tup [.x (.int .i64 0),.x (.string (bs [])),.x (.int .i64 0),.x (.iface 187 (.int .i64 e))]
theorem XmR (c:UInt8) (r:List UInt8) (hl:r.length≤50000):Xay Tryz.prog 117 [] [.x (.string (bs (c :: r)))] (fun q H'=>q=Xm2 (one (c :: r))∧H'=[]):=by
 have ht:=Xhe c
 have hd:=Xgr c
 have hw:=Xss 151 Tryz.f151 XeR Tryz.func151 (by decide) rfl XqE (c :: r) (by simp;omega)
 have hg:=Xss 152 Tryz.f152 XbK Tryz.func152 (by decide) rfl Xgr (c :: r) (by simp;omega)
 have hq:=Xrb (c :: r) (by simp) (by simp;omega) []
 have hp:=XoS (c :: r) (by simp) (by simp;omega) []
 simp only [List.drop_succ_cons,List.drop_zero] at hq hp
 have hwl:=Xlw XeR (c :: r)
 have hgl:=Xlw XbK (c :: r)
 simp only [Xyr] at hwl hgl
 refine XaV Tryz.func117 Tryz.ntmps117 ?_
 (repeat' (first|refine Wkx.go ?_|(refine Xaz (fun h=>?_) (fun h=>?_)<;>skip)|refine Xad ?_ (h:=by exact fun _=>Xam _ _ _ _ _ 0 _ rfl rfl rfl (by kernel_rfl) rfl (by simp;first|done|fail))|refine Xad ?_ (h:=by exact fun _=>Xbb rfl rfl Tryz.func149 (ht))|refine Xad ?_ (h:=by exact fun _=>Xbb rfl rfl Tryz.func152 (hd))|refine Xad ?_ (h:=by exact fun _=>Xbb rfl rfl Tryz.func150 (hw))|refine Xad ?_ (h:=by exact fun _=>Xbb rfl rfl Tryz.func150 (hg))|refine Xad ?_ (h:=by exact fun _=>Xbb rfl rfl Tryz.func153 (hq))|refine Xad ?_ (h:=by exact fun _=>Xbb rfl rfl Tryz.func154 (hp))|refine Xad ?_|fail))
 ·refine Xfe mixed ?_
  (first|(apply Xb6 0 rfl rfl (by kernel_rfl) (by intro c T H hp;simp [XbH,XaA,XbP,Xdx] at hp);(case h=>(exact Xbq _ rfl)))|fail);(apply Xb5;(case hT=>((try simp (disch:=first|omega|fail) only [wtn,List.drop_zero,Xys,Xyp,Xyq,Xyt,Xyx,Nat.reduceAdd,Nat.reduceMul,Nat.reduceSub,↓reduceIte,Nat.reduceEqDiff]);rfl));(case hH=>rfl));(first|(apply Xb6 1 rfl rfl (by kernel_rfl) (by intro c T H hp;simp [XbH,XaA,XbP,Xdx] at hp);(case h=>(exact Xbq _ rfl)))|fail);(apply Xb5;(case hT=>((try simp (disch:=first|omega|fail) only [wtn,List.drop_zero,Xys,Xyp,Xyq,Xyt,Xyx,Nat.reduceAdd,Nat.reduceMul,Nat.reduceSub,↓reduceIte,Nat.reduceEqDiff]);rfl));(case hH=>rfl));(first|(apply Xb6 2 rfl rfl (by kernel_rfl) (by intro c T H hp;simp [XbH,XaA,XbP,Xdx] at hp);(case h=>(exact Xdd _ _ _ _ _ _ _ rfl rfl (by kernel_rfl) (by first|exact .inl ⟨rfl,rfl⟩|fail) (by first|exact .inr ⟨_,_,rfl,rfl⟩|fail) (by simp;done) (by simp;first|omega|fail))))|fail);(apply Xb5;(case hT=>((try simp (disch:=first|omega|fail) only [wtn,List.drop_zero,Xys,Xyp,Xyq,Xyt,Xyx,Nat.reduceAdd,Nat.reduceMul,Nat.reduceSub,↓reduceIte,Nat.reduceEqDiff]);rfl));(case hH=>rfl));(first|(apply Xb6 3 rfl rfl (by kernel_rfl) (by intro c T H hp;simp [XbH,XaA,XbP,Xdx] at hp);(case h=>(exact Xbq _ rfl)))|fail);(apply Xb5;(case hT=>((try simp (disch:=first|omega|fail) only [wtn,List.drop_zero,Xys,Xyp,Xyq,Xyt,Xyx,Nat.reduceAdd,Nat.reduceMul,Nat.reduceSub,↓reduceIte,Nat.reduceEqDiff]);rfl));(case hH=>rfl))
  refine XjF ?_
  (repeat ((first|refine Xm3 4 ?_|refine Xm3 5 ?_|refine Xm3 6 ?_|refine Xm3 7 ?_|fail);(first|refine Xd5 ?_|fail)))
  refine Xf9 (by decide +kernel) ?_
  (repeat' (first|refine Wkx.go ?_|fail))
  rw [Xq1 c r (by assumption)]
  exact Xaa _ _ (XpT rfl (RV.tmp _) (RV.tmp _) (RV.tmp _) (RV.tmp _) (Xaj.mk' [] [] (Xyo _) (Xak.refl _ _) (VwL.refl _ _))) ⟨by (simp only [Xm2];(first|rfl|fail)),rfl⟩
 ·rw [XqZ c r (by assumption) (by assumption) (by first|omega|fail)]
  exact Xaa _ _ (XpT rfl (RV.tmp _) (RV.tmp _) (RV.tmp _) (RV.tmp _) (Xaj.mk' [] [] (Xyo _) (Xak.refl _ _) (VwL.refl _ _))) ⟨by (simp only [Xm2];(first|rfl|fail)),rfl⟩
 ·skip
  refine Xfe mixed ?_
  (first|(apply Xb6 0 rfl rfl (by kernel_rfl) (by intro c T H hp;simp [XbH,XaA,XbP,Xdx] at hp);(case h=>(exact Xbq _ rfl)))|fail);(apply Xb5;(case hT=>((try simp (disch:=first|omega|fail) only [wtn,List.drop_zero,Xys,Xyp,Xyq,Xyt,Xyx,Nat.reduceAdd,Nat.reduceMul,Nat.reduceSub,↓reduceIte,Nat.reduceEqDiff]);rfl));(case hH=>rfl));(first|(apply Xb6 1 rfl rfl (by kernel_rfl) (by intro c T H hp;simp [XbH,XaA,XbP,Xdx] at hp);(case h=>(exact Xbq _ rfl)))|fail);(apply Xb5;(case hT=>((try simp (disch:=first|omega|fail) only [wtn,List.drop_zero,Xys,Xyp,Xyq,Xyt,Xyx,Nat.reduceAdd,Nat.reduceMul,Nat.reduceSub,↓reduceIte,Nat.reduceEqDiff]);rfl));(case hH=>rfl));(first|(apply Xb6 2 rfl rfl (by kernel_rfl) (by intro c T H hp;simp [XbH,XaA,XbP,Xdx] at hp);(case h=>(exact Xdd _ _ _ _ _ _ _ rfl rfl (by kernel_rfl) (by first|exact .inl ⟨rfl,rfl⟩|fail) (by first|exact .inr ⟨_,_,rfl,rfl⟩|fail) (by simp;done) (by simp;first|omega|fail))))|fail);(apply Xb5;(case hT=>((try simp (disch:=first|omega|fail) only [wtn,List.drop_zero,Xys,Xyp,Xyq,Xyt,Xyx,Nat.reduceAdd,Nat.reduceMul,Nat.reduceSub,↓reduceIte,Nat.reduceEqDiff]);rfl));(case hH=>rfl));(first|(apply Xb6 3 rfl rfl (by kernel_rfl) (by intro c T H hp;simp [XbH,XaA,XbP,Xdx] at hp);(case h=>(exact Xbq _ rfl)))|fail);(apply Xb5;(case hT=>((try simp (disch:=first|omega|fail) only [wtn,List.drop_zero,Xys,Xyp,Xyq,Xyt,Xyx,Nat.reduceAdd,Nat.reduceMul,Nat.reduceSub,↓reduceIte,Nat.reduceEqDiff]);rfl));(case hH=>rfl))
  refine XjF ?_
  (repeat ((first|refine Xm3 4 ?_|refine Xm3 5 ?_|refine Xm3 6 ?_|refine Xm3 7 ?_|fail);(first|refine Xd5 ?_|fail)))
  refine Xf9 (by decide +kernel) ?_
  (repeat' (first|refine Wkx.go ?_|fail))
  rw [Xuc c r (by assumption) (by assumption) (by first|omega|fail)]
  exact Xaa _ _ (XpT rfl (RV.tmp _) (RV.tmp _) (RV.tmp _) (RV.tmp _) (Xaj.mk' [] [] (Xyo _) (Xak.refl _ _) (VwL.refl _ _))) ⟨by (simp only [Xm2];(first|rfl|fail)),rfl⟩
 ·skip
  cases hqq:quo r with
  | none=>
    simp only [hqq,Xi4]
    (repeat' (first|refine Wkx.go ?_|(refine Xaz (fun h=>?_) (fun h=>?_)<;>first|(exact absurd h (by decide))|skip)|refine Xad ?_|fail))
    rw [XoH c r (by assumption) (by assumption) (by omega)]
    simp only [hqq]
    exact Xaa _ _ (XpT rfl (RV.tmp _) (RV.tmp _) (RV.tmp _) (RV.tmp _) (Xaj.mk' [] [] (Xyo _) (Xak.refl _ _) (VwL.refl _ _))) ⟨by (simp only [Xm2];(first|rfl|fail)),rfl⟩
  | some x=>
    simp only [hqq,Xi4]
    (repeat' (first|refine Wkx.go ?_|(refine Xaz (fun h=>?_) (fun h=>?_)<;>first|(exact absurd h (by decide))|skip)|refine Xad ?_|fail))
    rw [XoH c r (by assumption) (by assumption) (by omega)]
    simp only [hqq]
    exact Xaa _ _ (XpT rfl (RV.tmp _) (RV.tmp _) (RV.tmp _) (RV.tmp _) (Xaj.mk' [] [] (Xyo _) (Xak.refl _ _) (VwL.refl _ _))) ⟨by (simp only [Xm2];(first|rfl|fail)),rfl⟩
 ·cases hqq:sla r with
  | none=>
    simp only [hqq,Xi4]
    (repeat' (first|refine Wkx.go ?_|(refine Xaz (fun h=>?_) (fun h=>?_)<;>first|(exact absurd h (by decide))|skip)|refine Xad ?_|fail))
    rw [XoF c r (by assumption) (by assumption) (by omega)]
    simp only [hqq]
    exact Xaa _ _ (XpT rfl (RV.tmp _) (RV.tmp _) (RV.tmp _) (RV.tmp _) (Xaj.mk' [] [] (Xyo _) (Xak.refl _ _) (VwL.refl _ _))) ⟨by (simp only [Xm2];(first|rfl|fail)),rfl⟩
  | some x=>
    simp only [hqq,Xi4]
    (repeat' (first|refine Wkx.go ?_|(refine Xaz (fun h=>?_) (fun h=>?_)<;>first|(exact absurd h (by decide))|skip)|refine Xad ?_|fail))
    rw [XoF c r (by assumption) (by assumption) (by omega)]
    simp only [hqq]
    exact Xaa _ _ (XpT rfl (RV.tmp _) (RV.tmp _) (RV.tmp _) (RV.tmp _) (Xaj.mk' [] [] (Xyo _) (Xak.refl _ _) (VwL.refl _ _))) ⟨by (simp only [Xm2];(first|rfl|fail)),rfl⟩
 ·skip
  refine Xfe mixed ?_
  (first|(apply Xb6 0 rfl rfl (by kernel_rfl) (by intro c T H hp;simp [XbH,XaA,XbP,Xdx] at hp);(case h=>(exact Xbq _ rfl)))|fail);(apply Xb5;(case hT=>((try simp (disch:=first|omega|fail) only [wtn,List.drop_zero,Xys,Xyp,Xyq,Xyt,Xyx,Nat.reduceAdd,Nat.reduceMul,Nat.reduceSub,↓reduceIte,Nat.reduceEqDiff]);rfl));(case hH=>rfl));(first|(apply Xb6 1 rfl rfl (by kernel_rfl) (by intro c T H hp;simp [XbH,XaA,XbP,Xdx] at hp);(case h=>(exact Xdd _ _ _ _ _ _ _ rfl rfl (by kernel_rfl) (by first|exact .inl ⟨rfl,rfl⟩|fail) (by first|exact .inr ⟨_,_,rfl,rfl⟩|fail) (by simp;done) (by simp;first|done|fail))))|fail);(apply Xb5;(case hT=>((try simp (disch:=first|omega|fail) only [wtn,List.drop_zero,Xys,Xyp,Xyq,Xyt,Xyx,Nat.reduceAdd,Nat.reduceMul,Nat.reduceSub,↓reduceIte,Nat.reduceEqDiff]);rfl));(case hH=>rfl))
  refine XjF ?_
  (repeat ((first|refine Xm3 2 ?_|refine Xm3 3 ?_|refine Xm3 4 ?_|refine Xm3 5 ?_|fail);(first|refine Xd5 ?_|fail)))
  refine Xf9 (by decide +kernel) ?_
  (repeat' (first|refine Wkx.go ?_|fail))
  rw [Xq0 c r (by assumption) (by assumption) (by first|omega|fail)]
  exact Xaa _ _ (XpT rfl (RV.tmp _) (RV.tmp _) (RV.tmp _) (RV.tmp _) (Xaj.mk' [] [] (Xyo _) (Xak.refl _ _) (VwL.refl _ _))) ⟨by (simp only [Xm2];(first|rfl|fail)),rfl⟩
 ·rw [Xt8 c r (by assumption) (by assumption) (by omega) (by omega) (by first|omega|fail)]
  exact Xaa _ _ (XpT rfl (RV.tmp _) (RV.tmp _) (RV.tmp _) (RV.tmp _) (Xaj.mk' [] [] (Xyo _) (Xak.refl _ _) (VwL.refl _ _))) ⟨by (simp only [Xm2];(first|rfl|fail)),rfl⟩
def XmF (l:List UInt8):Prop:=∀b∈l,b.toNat≠10
theorem XcC:XmF []:=fun b h=>by cases h
theorem Xa8 {c:UInt8} {r:List UInt8} (h:c.toNat≠10) (hr:XmF r):XmF (c :: r):=fun b hb=>by
 rcases List.mem_cons.1 hb with rfl|hb
 ·exact h
 ·exact hr b hb
theorem XqU {a b:List UInt8} (ha:XmF a) (hb:XmF b):XmF (a++b):=fun x hx=>by
 rcases List.mem_append.1 hx with h|h
 ·exact ha x h
 ·exact hb x h
theorem Xli:∀(l:List UInt8) (p:Nat × Nat),XmF l→plc p l=(p.1,p.2+l.length)
 | [],p,_=>by simp [plc]
 | c :: r,p,h=>by
   rw [plc,if_neg (h c (List.mem_cons_self ..)),Xli r _ (fun b hb=>h b (List.mem_cons_of_mem _ hb))]
   simp;omega
theorem Xn9 {b:UInt8} {n:Nat} (h:Xjj b=some n):b.toNat≠10:=by
 unfold Xjj at h
 split at h
 ·omega
 ·split at h
  ·omega
  ·split at h
   ·omega
   ·cases h
theorem XnU {l:List UInt8} {b:UInt8} {n:Nat} (h:Xfx l=some (b,n)):XmF (l.take n):=by
 unfold Xfx at h
 split at h
 ·cases h
 ·rename_i d r
  split at h
  ·cases h;exact Xa8 (by omega) XcC
  ·split at h
   ·cases h;exact Xa8 (by omega) XcC
   ·split at h
    ·cases h;exact Xa8 (by omega) XcC
    ·split at h
     ·split at h
      ·split at h
       ·rename_i h1 h2
        cases h;exact Xa8 (by omega) (Xa8 (Xn9 h1) (Xa8 (Xn9 h2) XcC))
       ·cases h
      ·cases h
     ·cases h
theorem XoO {l:List UInt8} {b:UInt8} {n:Nat} (h:part l=some (b,n)):XmF (l.take n):=by
 unfold part at h
 split at h
 ·cases h
 ·rename_i c r
  split at h
  ·cases h
  ·split at h
   ·cases h;exact Xa8 (by omega) XcC
   ·cases he:Xfx r with
    | none=>rw [he] at h;cases h
    | some x=>rw [he] at h;cases h;rw [List.take_succ_cons];exact Xa8 (by omega) (XnU he)
theorem Xll (l:List UInt8):∀x,quo l=some x→XmF (l.take x.2):=by
 match h:l with
 | []=>intro x hx;rw [Xkj] at hx;cases hx
 | c :: r=>
   intro x hx
   by_cases h1:c.toNat=34
   ·rw [Xki c r h1] at hx;cases hx;exact Xa8 (by omega) XcC
   ·cases hp:part (c :: r) with
    | none=>rw [Xlm c r h1 hp] at hx;cases hx
    | some y=>
      obtain ⟨b,n⟩:=y
      have hle:=Xke hp
      rw [XfU c r b n h1 hp] at hx
      cases hq:quo ((c :: r).drop n) with
      | none=>rw [hq] at hx;cases hx
      | some z=>
        have:=Xll ((c :: r).drop n) z hq
        rw [hq] at hx;cases hx
        simp only
        rw [List.take_add]
        exact XqU (XoO hp) this
termination_by l.length
decreasing_by subst h;simp;omega
theorem XfV (l:List UInt8):∀x,sla l=some x→XmF (l.take x.2):=by
 match h:l with
 | []=>intro x hx;rw [Xkw] at hx;cases hx
 | c :: r=>
   intro x hx
   by_cases h1:c.toNat=47
   ·rw [Xku c r h1] at hx;cases hx;exact Xa8 (by omega) XcC
   by_cases h2:c.toNat < 32
   ·rw [Xkt c r h2] at hx;cases hx
   by_cases h3:c.toNat=92
   ·match r,hx with
    | [],hx=>rw [Xh7 c h3] at hx;cases hx
    | d :: r,hx=>
      by_cases h4:d.toNat < 32
      ·rw [Xh6 c d r h3 h4] at hx;cases hx
      by_cases h5:d.toNat=47
      ·rw [Xkv c d r h3 h5] at hx
       cases hq:sla r with
       | none=>rw [hq] at hx;cases hx
       | some z=>have:=XfV r z hq;rw [hq] at hx;cases hx;simp only [Nat.add_comm 2,List.take_succ_cons];exact Xa8 (by omega) (Xa8 (by omega) this)
      ·rw [Xky c d r h3 (by omega) h5] at hx
       cases hq:sla r with
       | none=>rw [hq] at hx;cases hx
       | some z=>have:=XfV r z hq;rw [hq] at hx;cases hx;simp only [Nat.add_comm 2,List.take_succ_cons];exact Xa8 (by omega) (Xa8 (by omega) this)
   ·rw [Xkx c r h1 (by omega) h3] at hx
    cases hq:sla r with
    | none=>rw [hq] at hx;cases hx
    | some z=>have:=XfV r z hq;rw [hq] at hx;cases hx;simp only [Nat.add_comm 1,List.take_succ_cons];exact Xa8 (by omega) this
termination_by l.length
decreasing_by
 all_goals subst h;simp;try omega
theorem Xh9 (p:UInt8→Bool) (hp:∀b,p b=true→b.toNat≠10):∀l:List UInt8,XmF (l.take (spn p l))
 | []=>XcC
 | c :: r=>by
   cases h:p c with
   | false=>rw [Xst _ _ _ h];exact XcC
   | true=>rw [XgL _ _ _ h,List.take_succ_cons];exact Xa8 (hp c h) (Xh9 p hp r)
theorem XqX {l:List UInt8} {x:Int × List UInt8 × Nat} (h:one l=.ok x):XmF (l.take x.2.2):=by
 cases l with
 | nil=>simp [one] at h
 | cons c r=>
   simp only [one] at h
   split at h
   ·cases h
    exact Xh9 XeR (fun b hb=>by simp only [XeR,XbK,XeQ,Bool.or_eq_true,decide_eq_true_eq] at hb;omega) _
   ·split at h
    ·split at h
     ·cases h
     ·cases h
      exact Xh9 XbK (fun b hb=>by simp only [XbK,decide_eq_true_eq] at hb;omega) _
    ·split at h
     ·cases hq:quo r with
      | none=>rw [hq] at h;cases h
      | some y=>rw [hq] at h;cases h;exact Xa8 (by omega) (Xll r y hq)
     ·split at h
      ·cases hq:sla r with
       | none=>rw [hq] at h;cases h
       | some y=>rw [hq] at h;cases h;exact Xa8 (by omega) (XfV r y hq)
      ·split at h
       ·cases h;exact Xa8 (by omega) XcC
       ·cases h
theorem Xun {l:List UInt8} {k:Nat} {a:Int} {t:List UInt8} {m:Nat} (h:one (l.drop k)=.ok (a,t,m)):plc (1,1) (l.take (k+m))=((plc (1,1) (l.take k)).1,(plc (1,1) (l.take k)).2+m):=by
 rw [←XfA,Xli _ _ (XqX h),List.length_take]
 have:=Xgy h
 simp only at this
 rw [Nat.min_eq_left this.2.1]
end Go.Proofs.YtdlblokjfoggpaaGreatDoor
