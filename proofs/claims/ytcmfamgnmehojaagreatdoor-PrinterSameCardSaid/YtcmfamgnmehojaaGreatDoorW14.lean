import Derived.Test.YtcmfamgnmehojaaGreatDoorW13
import Derived.Test.YtcmfamgnmehojaaGreatDoorW10
import Derived.Lib.Builder
import Derived.Test.YtcmfamgnmehojaaGreatDoorW11
import Derived.Test.YtcmfamgnmehojaaGreatDoorW9
import Derived.Test.YtcmfamgnmehojaaGreatDoorW8
/- strings.Builder's WriteString at this dump; the program's lexer: Quote. After the shelf's proof. -/
set_option linter.unusedSimpArgs false
set_option linter.unusedVariables false
set_option maxRecDepth 100000
set_option maxHeartbeats 8000000
namespace Go.Proofs.YtcmfamgnmehojaaGreatDoor
open Go.Shelf Go.RowKit
theorem Xov (B b:Nat) (bs:List Value) (s:ByteArray) (w:World) (h:Lib.IsBuilder 69 5 B b bs w) (hlen:bs.length+s.size≤140737488355328) (hBw:B≤w.heap.size) :
  Calls Tryz.prog 67 #[.pointer (some ⟨b,0,none⟩),.string s] w fun e w'=>e=.returned (.tuple #[.int .i64 s.size,.nilIface])∧(Lib.BuilderAt 69 5 B b (.pointer (some ⟨b,0,none⟩)) (bs++Lib.strCells s) w'∧Below B w w'):=by
 obtain ⟨i0,hi,hz0,hz1,hz2⟩:=info_parts Xa3.infoByte
 go_enter Tryz.func67,Tryz.ntmps67
 go_wp2_with (go_at_call 86;refine (XlC B b bs _ h).mono ?_)
 rintro e w1 ⟨rfl,h1,hb1⟩
 obtain ⟨hB,v,hbk,hown,hne⟩:=h1
 have c0:w1.cell? ⟨b,0,none⟩=some (.pointer (some ⟨b,0,none⟩)):=by rw [Lib.cell_of_heap hbk];rfl
 have c1:w1.cell? ⟨b,1,none⟩=some v:=by rw [Lib.cell_of_heap hbk];rfl
 go_wp2_with (at_builtin;refine Lib.wpList_append_own_string _ rfl _ _ 67 9 rfl B 5 i0 Tryz.underlying67 Tryz.underlying9 hi hz0 hz1 hz2 _ _ _ rfl hown s rfl ?c3 ?c4 ?c5 ?_)
 case c3=>unfold maxLen;omega
 case c4=>omega
 case c5=>have:=hb1.size;omega
 intro v' w2 hown' hgrow _
 have hlt:b < w1.heap.size:=by
  rcases Nat.lt_or_ge b w1.heap.size with h'|h'
  ·exact h'
  ·simp [Array.getElem?_eq_none h'] at hbk
 have hb2:w2.heap[b]?=some (.cells #[.pointer (some ⟨b,0,none⟩),v] 69 (0,0)):=by
  rw [hgrow.block b hlt (fun e=>hne e.symm)]
  exact hbk
 have d0:w2.cell? ⟨b,0,none⟩=some (.pointer (some ⟨b,0,none⟩)):=by rw [Lib.cell_of_heap hb2];rfl
 have d1:w2.cell? ⟨b,1,none⟩=some v:=by rw [Lib.cell_of_heap hb2];rfl
 have f1:w2.frozen? ⟨b,1,none⟩=false:=Lib.frozen_of_heap hb2 1
 obtain ⟨ao,n',cap,rfl⟩:∃ao n' cap,v'=.slice ao n' cap:=by
  rcases hown'.2 with ⟨hv,_⟩|⟨g,cap,cur,hv,_⟩
  ·exact ⟨_,_,_,hv⟩
  ·exact ⟨_,_,_,hv⟩
 go_wp2
 go_ret2
 refine ⟨rfl,?_,?_⟩
 ·exact Lib.BuilderAt.put (T:=69) (e:=5) hB hb2 (bs':=bs++Lib.strCells s) (by simpa [Lib.strCells_length] using hown') Xa3.neB5
 ·exact (hb1.grown hgrow (by have:=hb1.size;omega) (fun k hk=>(hown.lt k hk).1)).setCell (p:=⟨b,1,none⟩) hB _
theorem Xdh (a b:List UInt8):Lib.byteCells (a++b)=Lib.byteCells a++Lib.byteCells b:=by simp [Lib.byteCells]
theorem XhC:∀(i:Nat) (h:i < (ByteArray.mk #[48,49,50,51,52,53,54,55,56,57,97,98,99,100,101,102]).size),(ByteArray.mk #[48,49,50,51,52,53,54,55,56,57,97,98,99,100,101,102])[i]=Xgz.getD i 0
 | 0,_=>rfl
 | 1,_=>rfl
 | 2,_=>rfl
 | 3,_=>rfl
 | 4,_=>rfl
 | 5,_=>rfl
 | 6,_=>rfl
 | 7,_=>rfl
 | 8,_=>rfl
 | 9,_=>rfl
 | 10,_=>rfl
 | 11,_=>rfl
 | 12,_=>rfl
 | 13,_=>rfl
 | 14,_=>rfl
 | 15,_=>rfl
 | n+16,h=>absurd h (by simp [ByteArray.size])
theorem XmX (l:List UInt8) (w:World) (hl:l.length≤2000000):Calls Tryz.prog 42 #[.string (bs l)] w fun e w'=>e=.returned (.string (bs (Xgo l)))∧Ext w w':=by
 go_enter Tryz.func42,Tryz.ntmps42
 go_wp2_with fail
 refine Calls.mono (Xde w.heap.size w.heap.size [] 34 _ (.inl ⟨Nat.le_refl _,.slice none 0 0,by unfold World.alloc;exact Array.getElem?_push_size,⟨rfl,.inl ⟨rfl,rfl⟩⟩,by intro h;cases h⟩) (by simp) (by simp)) ?_
 rintro e w0 ⟨rfl,hB0,hb0⟩
 have hE0:Ext w w0:=Below.trans (Ext.al _ _) hb0
 go_wp2_with fail
 go_loopw [4] (fun i wr=>∃(k:Nat),k≤l.length∧i=.int .i64 k∧Lib.IsBuilder 69 5 w.heap.size w.heap.size (Lib.byteCells (Xkt (l.take k))) wr∧Ext w wr) (fun i _=>l.length - (intOf i).toNat)
 case atStart=>exact ⟨0,Nat.zero_le _,rfl,.inr hB0,hE0⟩
 case round=>
  obtain ⟨k,h1,rfl,hB,hE⟩:=hrel
  have hz:w.heap.size≤wr.heap.size:=hE.size
  have hel:=XkL (l.take k)
  rw [List.length_take,Nat.min_eq_left h1] at hel
  have hbl:(Lib.byteCells (Xkt (l.take k))).length=(Xkt (l.take k)).length:=by simp [Lib.byteCells]
  obtain ⟨out,hout'⟩:∃out,Xkt (l.take k)=out:=⟨_,rfl⟩
  rw [hout'] at hB hel hbl
  have hout':=Lib.hid hout'
  by_cases hlt:k < l.length
  ·have hsu:=Lib.hid (Xjo l k hlt)
   rw [hout'.out] at hsu
   by_cases c34:l[k].toNat=34
   ·have hq:Hid (Xec l[k]=[92,l[k]]):=Lib.hid (by unfold Xec;rw [if_pos (by omega)])
    have b1:((l[k].toNat:Int) == 34)=true:=by rw [beq_iff_eq];omega
    clear c34
    go_wp2_with fail
    refine Calls.mono (Xde w.heap.size w.heap.size (Lib.byteCells out) 92 _ hB (by omega) hz) ?_
    rintro e w1 ⟨rfl,hB2,hb2⟩
    rw [show (Value.int IntKind.u8 92)=.int .u8 ((92:UInt8).toNat:Nat) from rfl,Xbp] at hB2
    have hz1:w.heap.size≤w1.heap.size:=Nat.le_trans hz hb2.size
    have hbl1:(Lib.byteCells (out++[92])).length=out.length+1:=by simp [Lib.byteCells]
    go_wp2_with fail
    refine Calls.mono (Xde w.heap.size w.heap.size (Lib.byteCells (out++[92])) l[k].toNat _ (.inr hB2) (by omega) hz1) ?_
    rintro e w2 ⟨rfl,hB3,hb3⟩
    rw [Xbp] at hB3
    go_wp2_with fail
    go_roundw
    case rel=>exact ⟨k+1,by omega,by go_num,.inr (by rw [hsu.out,hq.out,show out++[92,l[k]]=out++[92]++[l[k]] by simp];exact hB3),Below.trans (Below.trans hE hb2) hb3⟩
    case measure=>simp [intOf];omega
   have b1:((l[k].toNat:Int) == 34)=false:=by rw [XpE];omega
   by_cases c92:l[k].toNat=92
   ·have hq:Hid (Xec l[k]=[92,l[k]]):=Lib.hid (by unfold Xec;rw [if_pos (by omega)])
    have b2:((l[k].toNat:Int) == 92)=true:=by rw [beq_iff_eq];omega
    clear c92 c34
    go_wp2_with fail
    refine Calls.mono (Xde w.heap.size w.heap.size (Lib.byteCells out) 92 _ hB (by omega) hz) ?_
    rintro e w1 ⟨rfl,hB2,hb2⟩
    rw [show (Value.int IntKind.u8 92)=.int .u8 ((92:UInt8).toNat:Nat) from rfl,Xbp] at hB2
    have hz1:w.heap.size≤w1.heap.size:=Nat.le_trans hz hb2.size
    have hbl1:(Lib.byteCells (out++[92])).length=out.length+1:=by simp [Lib.byteCells]
    go_wp2_with fail
    refine Calls.mono (Xde w.heap.size w.heap.size (Lib.byteCells (out++[92])) l[k].toNat _ (.inr hB2) (by omega) hz1) ?_
    rintro e w2 ⟨rfl,hB3,hb3⟩
    rw [Xbp] at hB3
    go_wp2_with fail
    go_roundw
    case rel=>exact ⟨k+1,by omega,by go_num,.inr (by rw [hsu.out,hq.out,show out++[92,l[k]]=out++[92]++[l[k]] by simp];exact hB3),Below.trans (Below.trans hE hb2) hb3⟩
    case measure=>simp [intOf];omega
   have b2:((l[k].toNat:Int) == 92)=false:=by rw [XpE];omega
   by_cases c10:l[k].toNat=10
   ·have hq:Hid (Xec l[k]=[92,110]):=Lib.hid (by unfold Xec;rw [if_neg (by omega),if_pos c10])
    have b3:((l[k].toNat:Int) == 10)=true:=by rw [beq_iff_eq];omega
    clear c10
    go_wp2_with fail
    refine Calls.mono (Xov w.heap.size w.heap.size (Lib.byteCells out) (bs [92,110]) _ hB (by rw [Xd1];simp only [Xpq,Xpt];omega) hz) ?_
    rintro e w1 ⟨rfl,hB2,hb2⟩
    rw [show Lib.byteCells out++Lib.strCells (bs [92,110])=Lib.byteCells (out++[92,110]) by rw [Xdh];rfl] at hB2
    go_wp2_with fail
    go_roundw
    case rel=>exact ⟨k+1,by omega,by go_num,.inr (by rw [hsu.out,hq.out];exact hB2),Below.trans hE hb2⟩
    case measure=>simp [intOf];omega
   have b3:((l[k].toNat:Int) == 10)=false:=by rw [XpE];omega
   by_cases c9:l[k].toNat=9
   ·have hq:Hid (Xec l[k]=[92,116]):=Lib.hid (by unfold Xec;rw [if_neg (by omega),if_neg c10,if_pos c9])
    have b3:((l[k].toNat:Int) == 9)=true:=by rw [beq_iff_eq];omega
    clear c9
    go_wp2_with fail
    refine Calls.mono (Xov w.heap.size w.heap.size (Lib.byteCells out) (bs [92,116]) _ hB (by rw [Xd1];simp only [Xpq,Xpt];omega) hz) ?_
    rintro e w1 ⟨rfl,hB2,hb2⟩
    rw [show Lib.byteCells out++Lib.strCells (bs [92,116])=Lib.byteCells (out++[92,116]) by rw [Xdh];rfl] at hB2
    go_wp2_with fail
    go_roundw
    case rel=>exact ⟨k+1,by omega,by go_num,.inr (by rw [hsu.out,hq.out];exact hB2),Below.trans hE hb2⟩
    case measure=>simp [intOf];omega
   have b4:((l[k].toNat:Int) == 9)=false:=by rw [XpE];omega
   by_cases c32:l[k].toNat < 32
   ·have hq:Hid (Xec l[k]=[92,120,Xgz.getD (l[k].toNat / 16) 0,Xgz.getD (l[k].toNat % 16) 0]):=Lib.hid (by unfold Xec;rw [if_neg (by omega),if_neg c10,if_neg c9,if_pos (.inl c32)])
    clear c34 c92 c10 c9
    go_wp2_with fail
    refine Calls.mono (Xov w.heap.size w.heap.size (Lib.byteCells out) (bs [92,120]) _ hB (by rw [Xd1];simp only [Xpq,Xpt];omega) hz) ?_
    rintro e w1 ⟨rfl,hB2,hb2⟩
    rw [show Lib.byteCells out++Lib.strCells (bs [92,120])=Lib.byteCells (out++[92,120]) by rw [Xdh];rfl] at hB2
    have hz1:w.heap.size≤w1.heap.size:=Nat.le_trans hz hb2.size
    have hbl1:(Lib.byteCells (out++[92,120])).length=out.length+2:=by simp [Lib.byteCells]
    go_wp2_with fail
    refine Calls.mono (Xde w.heap.size w.heap.size (Lib.byteCells (out++[92,120])) _ _ (.inr hB2) (by omega) hz1) ?_
    rintro e w2 ⟨rfl,hB3,hb3⟩
    rw [XhC,Xbp] at hB3
    have hz2:w.heap.size≤w2.heap.size:=Nat.le_trans hz1 hb3.size
    have hbl2:(Lib.byteCells (out++[92,120]++[Xgz.getD (l[k].toNat / 16) 0])).length=out.length+3:=by simp [Lib.byteCells]
    go_wp2_with fail
    refine Calls.mono (Xde w.heap.size w.heap.size (Lib.byteCells (out++[92,120]++[Xgz.getD (l[k].toNat / 16) 0])) _ _ (.inr hB3) (by omega) hz2) ?_
    rintro e w3 ⟨rfl,hB4,hb4⟩
    rw [XhC,Xbp] at hB4
    go_wp2_with fail
    go_roundw
    case rel=>exact ⟨k+1,by omega,by go_num,.inr (by rw [hsu.out,hq.out];simpa only [List.append_assoc,Xpy,Xpx] using hB4),Below.trans (Below.trans (Below.trans hE hb2) hb3) hb4⟩
    case measure=>simp [intOf];omega
   by_cases c127:l[k].toNat=127
   ·have hq:Hid (Xec l[k]=[92,120,Xgz.getD (l[k].toNat / 16) 0,Xgz.getD (l[k].toNat % 16) 0]):=Lib.hid (by unfold Xec;rw [if_neg (by omega),if_neg c10,if_neg c9,if_pos (.inr c127)])
    have b5:((l[k].toNat:Int) == 127)=true:=by rw [beq_iff_eq];omega
    have g1:(l[k].toNat:Int) / 16 < 16:=by omega
    have g2:l[k].toNat / 16 < 16:=by omega
    clear c127
    clear c34 c92 c10 c9
    go_wp2_with fail
    refine Calls.mono (Xov w.heap.size w.heap.size (Lib.byteCells out) (bs [92,120]) _ hB (by rw [Xd1];simp only [Xpq,Xpt];omega) hz) ?_
    rintro e w1 ⟨rfl,hB2,hb2⟩
    rw [show Lib.byteCells out++Lib.strCells (bs [92,120])=Lib.byteCells (out++[92,120]) by rw [Xdh];rfl] at hB2
    have hz1:w.heap.size≤w1.heap.size:=Nat.le_trans hz hb2.size
    have hbl1:(Lib.byteCells (out++[92,120])).length=out.length+2:=by simp [Lib.byteCells]
    go_wp2_with fail
    refine Calls.mono (Xde w.heap.size w.heap.size (Lib.byteCells (out++[92,120])) _ _ (.inr hB2) (by omega) hz1) ?_
    rintro e w2 ⟨rfl,hB3,hb3⟩
    rw [XhC,Xbp] at hB3
    have hz2:w.heap.size≤w2.heap.size:=Nat.le_trans hz1 hb3.size
    have hbl2:(Lib.byteCells (out++[92,120]++[Xgz.getD (l[k].toNat / 16) 0])).length=out.length+3:=by simp [Lib.byteCells]
    go_wp2_with fail
    refine Calls.mono (Xde w.heap.size w.heap.size (Lib.byteCells (out++[92,120]++[Xgz.getD (l[k].toNat / 16) 0])) _ _ (.inr hB3) (by omega) hz2) ?_
    rintro e w3 ⟨rfl,hB4,hb4⟩
    rw [XhC,Xbp] at hB4
    go_wp2_with fail
    go_roundw
    case rel=>exact ⟨k+1,by omega,by go_num,.inr (by rw [hsu.out,hq.out];simpa only [List.append_assoc,Xpy,Xpx] using hB4),Below.trans (Below.trans (Below.trans hE hb2) hb3) hb4⟩
    case measure=>simp [intOf];omega
   have b5:((l[k].toNat:Int) == 127)=false:=by rw [XpE];omega
   have hq:Hid (Xec l[k]=[l[k]]):=Lib.hid (by unfold Xec;rw [if_neg (by omega),if_neg c10,if_neg c9,if_neg (by omega)])
   clear c34 c92 c10 c9 c127
   go_wp2_with fail
   refine Calls.mono (Xde w.heap.size w.heap.size (Lib.byteCells out) l[k].toNat _ hB (by omega) hz) ?_
   rintro e w1 ⟨rfl,hB2,hb2⟩
   rw [Xbp] at hB2
   go_wp2_with fail
   go_roundw
   case rel=>exact ⟨k+1,by omega,by go_num,.inr (by rw [hsu.out,hq.out];exact hB2),Below.trans hE hb2⟩
   case measure=>simp [intOf];omega
  ·obtain rfl:k=l.length:=by omega
   go_wp2_with fail
   refine Calls.mono (Xde w.heap.size w.heap.size (Lib.byteCells out) 34 _ hB (by omega) hz) ?_
   rintro e w1 ⟨rfl,hB2,hb2⟩
   rw [show (Value.int IntKind.u8 34)=.int .u8 ((34:UInt8).toNat:Nat) from rfl,Xbp] at hB2
   go_wp2_with (go_at_call 23;refine (Builder_String_any w.heap.size w.heap.size (out++[34]) _ (.inr hB2) (Nat.le_trans hz hb2.size)).mono ?_;rintro e w2 ⟨rfl,hb3⟩)
   go_ret
   exact ⟨by rw [←hout'.out,List.take_length];simp [bs,Xgo],Below.trans (Below.trans hE hb2) hb3⟩
theorem XkY (l:List UInt8) (hl:l.length≤2000000):Xbv Tryz.prog 42 [] [.x (.string (bs l))] (fun r H'=>r=.x (.string (bs (Xgo l)))∧H'=[]):=
 XcJ (args:=[.string (bs l)]) (fun w=>XmX l w hl) []
open Go.RowKit
def j1:JF:={ XfR ⟨1,[97],1,5⟩ with run:=[120] }
def ln (X:List UInt8) (ws:List (List UInt8)):List UInt8:=X++Lib.join ws [32]++[10]
def wL1:List (List UInt8):=[[106,111,98],[97],[123]]
def wL2:List (List UInt8):=[[32,32,114,117,110],Xgo [120]]
def wL3:List (List UInt8):=[[32,32,114,101,115,116,97,114,116],[111,110,45,102,97,105,108,117,114,101]]
def wL4:List (List UInt8):=[[32,32,98,97,99,107,111,102,102],[49,48,48],[49,48,48,48,48],[49,48,48,48,48]]
def wL5:List (List UInt8):=[[32,32,98,117,114,115,116],[53],[54,48,48,48,48]]
def wL6:List (List UInt8):=[[32,32,115,116,111,112],[84,69,82,77],[53,48,48,48]]
def wL7:List (List UInt8):=[[125]]
def tx1:List UInt8:=ln [] wL1
def tx2:List UInt8:=ln tx1 wL2
def tx3:List UInt8:=ln tx2 wL3
def tx4:List UInt8:=ln tx3 wL4
def tx5:List UInt8:=ln tx4 wL5
def tx6:List UInt8:=ln tx5 wL6
def tx7:List UInt8:=ln tx6 wL7
theorem dl5:XfQ 5=[53]:=Xdi 5 (by decide)
theorem XoC:XfQ 100=[49,48,48]:=by rw [Xcb 100 (by decide),Xcb (100 / 10) (by decide),Xdi (100 / 10 / 10) (by decide)];rfl
theorem Xnt:XfQ 5000=[53,48,48,48]:=by rw [Xcb 5000 (by decide),Xcb (5000 / 10) (by decide),Xcb (5000 / 10 / 10) (by decide),Xdi (5000 / 10 / 10 / 10) (by decide)];rfl
theorem Xmc:XfQ 10000=[49,48,48,48,48]:=by rw [Xcb 10000 (by decide),Xcb (10000 / 10) (by decide),Xcb (10000 / 10 / 10) (by decide),Xcb (10000 / 10 / 10 / 10) (by decide),Xdi (10000 / 10 / 10 / 10 / 10) (by decide)];rfl
theorem Xmd:XfQ 60000=[54,48,48,48,48]:=by rw [Xcb 60000 (by decide),Xcb (60000 / 10) (by decide),Xcb (60000 / 10 / 10) (by decide),Xcb (60000 / 10 / 10 / 10) (by decide),Xdi (60000 / 10 / 10 / 10 / 10) (by decide)];rfl
theorem XjQ (v:Int) (l:List UInt8) (h0:0≤v) (h1:v≤18446744073709551615) (h:XfQ v.toNat=l):Xbv Tryz.prog 46 [] [.x (.int .u64 v)] (fun r H'=>r=.x (.string (bs l))∧H'=[]):=h▸Xj3 v h0 h1
theorem lnx (b0:Nat) (ad:Option Addr) (cap:Nat) (X:List UInt8) (xs:List (List UInt8)) (h0:xs≠[]) (hn:xs.length≤1000) (hl:(Lib.join xs [32]).length≤100000) (hX:X.length≤100000):Xbv Tryz.prog 41 [.row (some ⟨b0,0,none⟩) 1 1 69 2 [.x (.pointer (some ⟨b0,0,none⟩)),.x (.slice ad X.length cap)],.row ad X.length cap 5 1 (u8a X)] [.x (.pointer (some ⟨b0,0,none⟩)),.sq xs.length (sa xs)] (fun r H'=>∃ad' cap',r=.x (.tuple #[])∧H'=XdE b0 ad' cap' (ln X xs)):=XlO b0 _ (.inr rfl) ad cap X xs h0 hn hl hX
theorem Xoi (b0:Nat) (p:Option Addr) (hp:p=none∨p=some ⟨b0,0,none⟩) (ad:Option Addr) (cap:Nat):Xbv Tryz.prog 22 [.row (some ⟨b0,0,none⟩) 1 1 69 2 [.x (.pointer p),.x (.slice ad 0 cap)],.row ad 0 cap 5 1 []] [.x (.pointer (some ⟨b0,0,none⟩)),.agg [.x (.string (bs [97])),.x (.string (bs [120])),.sq 0 [],.sq 0 [],.x (.bool false),.x (.string (bs [])),.x (.int .i64 2),.x (.int .u64 100),.x (.int .u64 10000),.x (.int .u64 10000),.x (.int .i64 5),.x (.int .u64 60000),.sq 1 [.x (.int .i64 15),.x (.int .u64 5000)],.x (.int .i64 1),.x (.int .i64 5)]] (fun r H'=>∃(ad':Option Addr) (cap':Nat),r=.x (.tuple #[])∧H'=XdE b0 ad' cap' tx7):=by
 have hq:=XkY [120] (by decide)
 have h1:Xbv Tryz.prog 41 _ _ (fun r H'=>∃ad' cap',r=.x (.tuple #[])∧H'=XdE b0 ad' cap' tx1):=XlO b0 p hp ad cap [] wL1 (by decide) (by decide) (by decide) (by decide)
 have h2:∀ad cap,Xbv Tryz.prog 41 _ _ (fun r H'=>∃ad' cap',r=.x (.tuple #[])∧H'=XdE b0 ad' cap' tx2):=fun ad cap=>lnx b0 ad cap tx1 wL2 (by decide) (by decide) (by decide) (by decide)
 have h3:∀ad cap,Xbv Tryz.prog 41 _ _ (fun r H'=>∃ad' cap',r=.x (.tuple #[])∧H'=XdE b0 ad' cap' tx3):=fun ad cap=>lnx b0 ad cap tx2 wL3 (by decide) (by decide) (by decide) (by decide)
 have h4:∀ad cap,Xbv Tryz.prog 41 _ _ (fun r H'=>∃ad' cap',r=.x (.tuple #[])∧H'=XdE b0 ad' cap' tx4):=fun ad cap=>lnx b0 ad cap tx3 wL4 (by decide) (by decide) (by decide) (by decide)
 have h5:∀ad cap,Xbv Tryz.prog 41 _ _ (fun r H'=>∃ad' cap',r=.x (.tuple #[])∧H'=XdE b0 ad' cap' tx5):=fun ad cap=>lnx b0 ad cap tx4 wL5 (by decide) (by decide) (by decide) (by decide)
 have h6:∀ad cap,Xbv Tryz.prog 41 _ _ (fun r H'=>∃ad' cap',r=.x (.tuple #[])∧H'=XdE b0 ad' cap' tx6):=fun ad cap=>lnx b0 ad cap tx5 wL6 (by decide) (by decide) (by decide) (by decide)
 have h7:∀ad cap,Xbv Tryz.prog 41 _ _ (fun r H'=>∃ad' cap',r=.x (.tuple #[])∧H'=XdE b0 ad' cap' tx7):=fun ad cap=>lnx b0 ad cap tx6 wL7 (by decide) (by decide) (by decide) (by decide)
 have n5:=XjQ 5 _ (by decide) (by decide) dl5
 have n100:=XjQ 100 _ (by decide) (by decide) XoC
 have n5000:=XjQ 5000 _ (by decide) (by decide) Xnt
 have n10000:=XjQ 10000 _ (by decide) (by decide) Xmc
 have n60000:=XjQ 60000 _ (by decide) (by decide) Xmd
 simp only [XdE] at h1 h2 h3 h4 h5 h6 h7
 refine XaP Tryz.func22 rfl ?_
 simp only [Tryz.ntmps22,Xpq,Xpt,Xpu,Xpv,Xpy,Xpx,Nat.reduceAdd,Nat.reduceSub]
 (repeat' (first|with_reducible (first|refine Xaj ?_|refine Xac ?_|refine Xas ?_|refine Xaf ?_|refine Xaa ?_)|((apply Xad rfl);(case h=>((try (intro (hp:(_:Bool)=true);((try simp only [Bool.and_eq_true,Bool.not_eq_true',Bool.not_eq_true] at hp);(try simp only [hp,wte]);(try simp only [whn] at hp))));(first|(apply Xab 0 rfl;(exact Xar _ rfl))|(apply Xab 3 rfl;(exact Xbh _ _ _ _ _ _ HEl.out rfl rfl))|(apply Xab 5 rfl;(exact Xag _ _ _ _ _ _ rfl rfl Xbb.out))|(apply Xab 6 rfl;(exact Xay _ _ _ _ _ _ _ _ rfl rfl Xa0.out XaT.out (by first|exact Xpm rfl|fail) (by first|exact Xpm rfl|fail)))|(apply Xab 11 rfl;(exact XaE 42 Tryz.f42 _ _ rfl rfl Tryz.func42 (by decide) rfl (VwL.refl _ _) (hq)))|(apply Xab 17 rfl;(exact XbD _ _ _ _ _ _ rfl Xa6.out rfl (by first|rfl|fail) rfl rfl (by decide))))));(case hT=>((try simp only [wtn,Xpr,Xpo,Xpp,Xps,Xpw,Nat.reduceAdd,Nat.reduceMul,Nat.reduceSub,↓reduceIte,Nat.reduceEqDiff]);rfl)))|(refine Xak rfl ?_;((first|(refine Xap 11 rfl ?_;(first|(refine Xax 41 Tryz.f41 [_,_] _ _ _ rfl rfl Tryz.func41 (by decide) rfl (List.perm_append_comm (l₁:=[_]) (l₂:=[_,_])) (VwL.refl _ _) h1 ?_;rintro _ _ ⟨ad1,cap1,rfl,rfl⟩)|(refine Xax 41 Tryz.f41 [_,_] _ _ _ rfl rfl Tryz.func41 (by decide) rfl (Xpn _) (VwL.refl _ _) (h2 ad1 cap1) ?_;rintro _ _ ⟨ad2,cap2,rfl,rfl⟩)))|(refine Xap 15 rfl ?_;(refine XbB _ _ rfl (by first|rfl|fail) (fun b=>?_))));apply Xai;(case hT=>((try simp only [wtn,Xpr,Xpo,Xpp,Xps,Xpw,Nat.reduceAdd,Nat.reduceMul,Nat.reduceSub,↓reduceIte,Nat.reduceEqDiff]);rfl));(case hH=>((try simp only [wtn,Xpr,Xpo,Xpp,Xps,Xpw,Nat.reduceAdd,Nat.reduceMul,Nat.reduceSub,↓reduceIte,Nat.reduceEqDiff]);rfl))))|fail))
 refine XeE (XcL ?_)
 (repeat' (first|with_reducible (first|refine Xaj ?_|refine Xac ?_|refine Xaz ?_|refine Xa4 ?_|refine Xaf ?_|refine Xaa ?_|refine XaO ?_|refine XaH ?_)|(refine Xal _ rfl (fun h=>?_) (fun h=>?_)<;>first|(exact absurd h (by decide))|((try (simp only [whn] at h));skip))|((apply Xad rfl);(case h=>((try (intro (hp:(_:Bool)=true);((try simp only [Bool.and_eq_true,Bool.not_eq_true',Bool.not_eq_true] at hp);(try simp only [hp,wte]);(try simp only [whn] at hp))));(first|(apply Xab 0 rfl;(exact Xar _ rfl))|(apply Xab 3 rfl;(exact Xbh _ _ _ _ _ _ HEl.out rfl rfl))|(apply Xab 5 rfl;(exact Xag _ _ _ _ _ _ rfl rfl Xbb.out))|(apply Xab 6 rfl;(exact Xay _ _ _ _ _ _ _ _ rfl rfl Xa0.out XaT.out (by first|exact Xpm rfl|fail) (by first|exact Xpm rfl|fail)))|(apply Xab 11 rfl;(exact XaE 45 Tryz.f45 _ _ rfl rfl Tryz.func45 (by decide) rfl (VwL.refl _ _) (Xlf)))|(apply Xab 17 rfl;(exact XbD _ _ _ _ _ _ rfl Xa6.out rfl (by first|rfl|fail) rfl rfl (by decide)))|(apply XaJ;(case hs=>(intro _ _ h;cases h));(case hx=>rfl);(case hrun=>(intro w;simp [wtb,AV.val,go_sem];(try go_bits);rfl))))));(case hT=>((try simp only [wtn,Xpr,Xpo,Xpp,Xps,Xpw,Nat.reduceAdd,Nat.reduceMul,Nat.reduceSub,↓reduceIte,Nat.reduceEqDiff]);rfl)))|(refine Xak rfl ?_;((refine Xap 11 rfl ?_;(refine Xax 41 Tryz.f41 [_,_] _ _ _ rfl rfl Tryz.func41 (by decide) rfl (Xpn _) (VwL.refl _ _) (h3 ad2 cap2) ?_;rintro _ _ ⟨ad3,cap3,rfl,rfl⟩));apply Xai;(case hT=>((try simp only [wtn,Xpr,Xpo,Xpp,Xps,Xpw,Nat.reduceAdd,Nat.reduceMul,Nat.reduceSub,↓reduceIte,Nat.reduceEqDiff]);rfl));(case hH=>((try simp only [wtn,Xpr,Xpo,Xpp,Xps,Xpw,Nat.reduceAdd,Nat.reduceMul,Nat.reduceSub,↓reduceIte,Nat.reduceEqDiff]);rfl))))|fail))
 refine Xc7 (B:=[.box b _]) (R:=[_,_]) mixed [0,1,2,3,4,5,6,7,8,9,10,11] [11] [] none [] 0 (List.perm_append_comm (l₁:=[_,_]) (l₂:=[_])) (by decide +kernel) rfl (fun i o h=>by cases h) (by decide) ?_
 (repeat' (first|(apply Xcx rfl rfl;(case h=>(intro H1;(try simp only [Xpy,Xpx]);(first|(apply Xab 0 rfl;(exact Xar _ rfl))|(apply Xab 5 rfl;(exact Xag _ _ _ _ _ _ rfl rfl Xbb.out))|(apply Xab 6 rfl;(exact Xay _ _ _ _ _ _ _ _ rfl rfl Xa0.out XaT.out (by first|exact Xpm rfl|fail) (by first|exact Xpm rfl|fail)))|(apply Xab 11 rfl;(first|exact XaE 46 Tryz.f46 _ _ rfl rfl Tryz.func46 (by decide) rfl (VwL.refl _ _) (n100)|exact XaE 46 Tryz.f46 _ _ rfl rfl Tryz.func46 (by decide) rfl (VwL.refl _ _) (n10000)))|(apply Xab 17 rfl;(exact XbD _ _ _ _ _ _ rfl Xa6.out rfl (by first|rfl|fail) rfl rfl (by decide))))));(case hT=>((try simp only [wtn,Xpr,Xpo,Xpp,Xps,Xpw,Nat.reduceAdd,Nat.reduceMul,Nat.reduceSub,↓reduceIte,Nat.reduceEqDiff]);rfl)))|(apply Xc9 rfl rfl;(refine Xap 11 rfl ?_;(refine Xax 41 Tryz.f41 [_,_] _ _ _ rfl rfl Tryz.func41 (by decide) rfl (Xpn _) (VwL.refl _ _) (h4 ad3 cap3) ?_;rintro _ _ ⟨ad4,cap4,rfl,rfl⟩));refine ⟨_,rfl,?_⟩;apply Xc8;(case hT=>((try simp only [wtn,Xpr,Xpo,Xpp,Xps,Xpw,Nat.reduceAdd,Nat.reduceMul,Nat.reduceSub,↓reduceIte,Nat.reduceEqDiff]);rfl));(case hH=>((try simp only [wtn,Xpr,Xpo,Xpp,Xps,Xpw,Nat.reduceAdd,Nat.reduceMul,Nat.reduceSub,↓reduceIte,Nat.reduceEqDiff]);rfl)))|fail))
 (first|refine Xci ?_|fail);(apply Xao;(case hT=>((try simp only [wtn,Xpr,Xpo,Xpp,Xps,Xpw,Nat.reduceAdd,Nat.reduceMul,Nat.reduceSub,↓reduceIte,Nat.reduceEqDiff]);rfl));(case hH=>(simp only [Xpy,Xpx];rfl)));skip;refine XaV (by decide +kernel) ?_
 (repeat' (first|with_reducible (first|refine Xaj ?_|refine Xaa ?_)|fail))
 refine Xc7 (B:=[.box b _]) (R:=[_,_]) mixed [0,1,2,3,4,5,6,7,8,9,10] [10] [] none [] 0 (Xpn _) (by decide +kernel) rfl (fun i o h=>by cases h) (by decide) ?_
 (repeat' (first|(apply Xcx rfl rfl;(case h=>(intro H1;(try simp only [Xpy,Xpx]);(first|(apply Xab 0 rfl;(exact Xar _ rfl))|(apply Xab 5 rfl;(exact Xag _ _ _ _ _ _ rfl rfl Xbb.out))|(apply Xab 6 rfl;(exact Xay _ _ _ _ _ _ _ _ rfl rfl Xa0.out XaT.out (by first|exact Xpm rfl|fail) (by first|exact Xpm rfl|fail)))|(apply Xab 11 rfl;(first|exact XaE 46 Tryz.f46 _ _ rfl rfl Tryz.func46 (by decide) rfl (VwL.refl _ _) (n5)|exact XaE 46 Tryz.f46 _ _ rfl rfl Tryz.func46 (by decide) rfl (VwL.refl _ _) (n60000)))|(apply Xab 17 rfl;(exact XbD _ _ _ _ _ _ rfl Xa6.out rfl (by first|rfl|fail) rfl rfl (by decide)))|(apply XaJ;(case hs=>(intro _ _ h;cases h));(case hx=>rfl);(case hrun=>(intro w;simp [wtb,AV.val,go_sem];(try go_bits);rfl))))));(case hT=>((try simp only [wtn,Xpr,Xpo,Xpp,Xps,Xpw,Nat.reduceAdd,Nat.reduceMul,Nat.reduceSub,↓reduceIte,Nat.reduceEqDiff]);rfl)))|(apply Xc9 rfl rfl;(refine Xap 11 rfl ?_;(refine Xax 41 Tryz.f41 [_,_] _ _ _ rfl rfl Tryz.func41 (by decide) rfl (Xpn _) (VwL.refl _ _) (h5 ad4 cap4) ?_;rintro _ _ ⟨ad5,cap5,rfl,rfl⟩));refine ⟨_,rfl,?_⟩;apply Xc8;(case hT=>((try simp only [wtn,Xpr,Xpo,Xpp,Xps,Xpw,Nat.reduceAdd,Nat.reduceMul,Nat.reduceSub,↓reduceIte,Nat.reduceEqDiff]);rfl));(case hH=>((try simp only [wtn,Xpr,Xpo,Xpp,Xps,Xpw,Nat.reduceAdd,Nat.reduceMul,Nat.reduceSub,↓reduceIte,Nat.reduceEqDiff]);rfl)))|fail))
 (first|refine Xci ?_|fail);(apply Xao;(case hT=>((try simp only [wtn,Xpr,Xpo,Xpp,Xps,Xpw,Nat.reduceAdd,Nat.reduceMul,Nat.reduceSub,↓reduceIte,Nat.reduceEqDiff]);rfl));(case hH=>(simp only [Xpy,Xpx];rfl)));skip;refine XaV (by decide +kernel) ?_
 (repeat' (first|with_reducible (first|refine Xaj ?_|refine Xac ?_|refine Xas ?_|refine Xaf ?_|refine Xaa ?_)|((apply Xad rfl);(case h=>((try (intro (hp:(_:Bool)=true);((try simp only [Bool.and_eq_true,Bool.not_eq_true',Bool.not_eq_true] at hp);(try simp only [hp,wte]);(try simp only [whn] at hp))));(first|(apply Xab 0 rfl;(first|exact Xar _ rfl|exact Xav _ rfl))|(apply Xab 3 rfl;(exact Xbh _ _ _ _ _ _ HEl.out rfl rfl))|(apply Xab 5 rfl;(exact Xag _ _ _ _ _ _ rfl rfl Xbb.out))|(apply Xab 6 rfl;(exact Xay _ _ _ _ _ _ _ _ rfl rfl Xa0.out XaT.out (by first|exact Xpm rfl|fail) (by first|exact Xpm rfl|fail))))));(case hT=>((try simp only [wtn,Xpr,Xpo,Xpp,Xps,Xpw,Nat.reduceAdd,Nat.reduceMul,Nat.reduceSub,↓reduceIte,Nat.reduceEqDiff]);rfl)))|(refine Xak rfl ?_;((refine Xap 17 rfl ?_;(refine XaF _ _ _ _ _ _ _ _ rfl Xa6.out (by first|rfl|fail) rfl (by decide) rfl (fun b=>?_)));apply Xai;(case hT=>((try simp only [wtn,Xpr,Xpo,Xpp,Xps,Xpw,Nat.reduceAdd,Nat.reduceMul,Nat.reduceSub,↓reduceIte,Nat.reduceEqDiff]);rfl));(case hH=>((try simp only [wtn,Xpr,Xpo,Xpp,Xps,Xpw,Nat.reduceAdd,Nat.reduceMul,Nat.reduceSub,↓reduceIte,Nat.reduceEqDiff]);rfl))))|fail))
 refine XeE (XcL ?_)
 (repeat' (first|with_reducible (first|refine Xaj ?_|refine Xac ?_|refine Xas ?_|refine Xaz ?_|refine Xaf ?_|refine Xaa ?_|refine Xah ?_)|(refine Xal _ rfl (fun h=>?_) (fun h=>?_)<;>first|(exact absurd h (by decide))|((try (simp only [whn] at h));skip))|((apply Xad rfl);(case h=>((try (intro (hp:(_:Bool)=true);((try simp only [Bool.and_eq_true,Bool.not_eq_true',Bool.not_eq_true] at hp);(try simp only [hp,wte]);(try simp only [whn] at hp))));(first|(apply Xab 0 rfl;(first|exact Xar _ rfl|exact Xav _ rfl))|(apply Xab 3 rfl;(exact Xbh _ _ _ _ _ _ HEl.out rfl rfl))|(apply Xab 5 rfl;(exact Xag _ _ _ _ _ _ rfl rfl Xbb.out))|(apply Xab 6 rfl;(first|exact XaC _ _ _ _ _ rfl rfl XaT.out (by first|exact Xpm rfl|fail) (by first|exact Xpm rfl|fail)|exact Xay _ _ _ _ _ _ _ _ rfl rfl Xa0.out XaT.out (by first|exact Xpm rfl|fail) (by first|exact Xpm rfl|fail)))|(apply Xab 7 rfl;(exact XaD _ _ _ _ _ _ _ _ 0 _ rfl rfl rfl HEl.out rfl (by omega) (by simp;first|done|fail)))|(apply Xab 11 rfl;(first|exact XaE 46 Tryz.f46 _ _ rfl rfl Tryz.func46 (by decide) rfl (VwL.refl _ _) (n5000)|exact XaE 47 Tryz.f47 _ _ rfl rfl Tryz.func47 (by decide) rfl (VwL.refl _ _) (Xkf)))|(apply XaJ;(case hs=>(intro _ _ h;cases h));(case hx=>rfl);(case hrun=>(intro w;simp [wtb,AV.val,go_sem];(try go_bits);rfl))))));(case hT=>((try simp only [wtn,Xpr,Xpo,Xpp,Xps,Xpw,Nat.reduceAdd,Nat.reduceMul,Nat.reduceSub,↓reduceIte,Nat.reduceEqDiff]);rfl)))|(refine Xak rfl ?_;((first|(refine Xap 13 rfl ?_;(refine XaL _ _ _ _ _ _ _ _ _ _ _ _ _ _ rfl rfl XbA.out (Src.row _ rfl XbA.out) Xa6.out (by first|rfl|fail) (Xdj _ _ (by omega) (by decide)) (fun ad cap=>?_)))|(refine Xap 14 rfl ?_;(refine XaQ _ _ rfl XbK.out rfl (fun b=>?_)))|(refine Xap 16 rfl ?_;(refine Xat _ _ _ _ _ _ _ rfl rfl Xa0.out XaS.out (by first|rfl|fail) (by first|exact Xpm rfl|fail) ?_))|(refine Xap 17 rfl ?_;(refine XaF _ _ _ _ _ _ _ _ rfl Xa6.out (by first|rfl|fail) rfl (by decide) rfl (fun b=>?_))));apply Xai;(case hT=>((try simp only [wtn,Xpr,Xpo,Xpp,Xps,Xpw,Nat.reduceAdd,Nat.reduceMul,Nat.reduceSub,↓reduceIte,Nat.reduceEqDiff]);rfl));(case hH=>((try simp only [wtn,Xpr,Xpo,Xpp,Xps,Xpw,Nat.reduceAdd,Nat.reduceMul,Nat.reduceSub,↓reduceIte,Nat.reduceEqDiff]);rfl))))|fail))
 refine XcL ?_
 (repeat' (first|with_reducible (first|refine Xaj ?_|refine Xac ?_|refine Xa4 ?_|refine Xaf ?_|refine Xaa ?_|refine XaO ?_|refine XaH ?_)|(refine Xal _ rfl (fun h=>?_) (fun h=>?_)<;>first|(exact absurd h (by decide))|((try (simp only [whn] at h));skip))|((apply Xad rfl);(case h=>((try (intro (hp:(_:Bool)=true);((try simp only [Bool.and_eq_true,Bool.not_eq_true',Bool.not_eq_true] at hp);(try simp only [hp,wte]);(try simp only [whn] at hp))));(first|(apply Xab 0 rfl;(exact Xar _ rfl))|(apply XaJ;(case hs=>(intro _ _ h;cases h));(case hx=>rfl);(case hrun=>(intro w;simp [wtb,AV.val,go_sem];(try go_bits);rfl))))));(case hT=>((try simp only [wtn,Xpr,Xpo,Xpp,Xps,Xpw,Nat.reduceAdd,Nat.reduceMul,Nat.reduceSub,↓reduceIte,Nat.reduceEqDiff]);rfl)))|fail))
 apply XcK
 case h=>
  apply XaK.mk' [_,_,.row ad _ cap _ _ _,_] [_,_] (Xpn _) (XaI.refl _ _)
  repeat' (first|exact VwL.nil|apply VwL.cons|exact Vw.row (List.Mem.tail _ (List.Mem.tail _ (List.Mem.head _))) (VwL.refl _ _)|exact Vw.refl _|fail)
 (repeat' (first|with_reducible (first|refine Xac ?_|refine Xaf ?_|refine Xaa ?_)|((apply Xad rfl);(case h=>((try (intro (hp:(_:Bool)=true);((try simp only [Bool.and_eq_true,Bool.not_eq_true',Bool.not_eq_true] at hp);(try simp only [hp,wte]);(try simp only [whn] at hp))));(first|(apply Xab 0 rfl;(exact Xar _ rfl))|(apply Xab 17 rfl;(exact XbD _ _ _ _ _ _ rfl Xa6.out rfl (by first|rfl|fail) rfl rfl (by decide))))));(case hT=>((try simp only [wtn,Xpr,Xpo,Xpp,Xps,Xpw,Nat.reduceAdd,Nat.reduceMul,Nat.reduceSub,↓reduceIte,Nat.reduceEqDiff]);rfl)))|(refine Xak rfl ?_;((refine Xap 11 rfl ?_;(first|(refine Xax 41 Tryz.f41 [_,_] _ _ _ rfl rfl Tryz.func41 (by decide) rfl (Xpn _) (VwL.refl _ _) (h6 ad5 cap5) ?_;rintro _ _ ⟨ad6,cap6,rfl,rfl⟩)|(refine Xax 41 Tryz.f41 [_,_] _ _ _ rfl rfl Tryz.func41 (by decide) rfl (Xpn _) (VwL.refl _ _) (h7 ad6 cap6) ?_;rintro _ _ ⟨ad7,cap7,rfl,rfl⟩)));apply Xai;(case hT=>((try simp only [wtn,Xpr,Xpo,Xpp,Xps,Xpw,Nat.reduceAdd,Nat.reduceMul,Nat.reduceSub,↓reduceIte,Nat.reduceEqDiff]);rfl));(case hH=>((try simp only [wtn,Xpr,Xpo,Xpp,Xps,Xpw,Nat.reduceAdd,Nat.reduceMul,Nat.reduceSub,↓reduceIte,Nat.reduceEqDiff]);rfl))))|fail))
 refine Xcj _ _ (Xeu rfl (XaK.mk' [] _ (Xpn _) (XaI.refl _ _) VwL.nil)) ⟨ad7,cap7,rfl,rfl⟩
end Go.Proofs.YtcmfamgnmehojaaGreatDoor
