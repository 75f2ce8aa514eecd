import Derived.Test.YtcmfamgnmehojaaGreatDoorW10
import Derived.Test.YtcmfamgnmehojaaGreatDoorW0
import Derived.Shelf.Strings.Search2
import Derived.Shelf.Strconv.Itoa3
import Derived.Shelf.Bytes.SlEqualAll
import Derived.Shelf.Strings.OnBuilder
import Derived.Lib.AppendIntMem
import Derived.Lib.ItoaMem
import Derived.Test.YtcmfamgnmehojaaGreatDoorW9
import Derived.Lib.Join
import Derived.Test.YtcmfamgnmehojaaGreatDoorW6
/- Texts that are read as tokens, whatever follows. No program in sight. -/
set_option linter.unusedSimpArgs false
set_option linter.unusedVariables false
set_option maxRecDepth 100000
set_option maxHeartbeats 8000000
namespace Go.Proofs.YtcmfamgnmehojaaGreatDoor
open Go.RowKit
def kts (ts:List Tok):List (Int × List UInt8):=ts.map fun t=>(t.kind,t.text)
def Xdu (C:List UInt8→Prop) (l:List UInt8) (ks:List (Int × List UInt8)):Prop:=
 ∀(p:Nat × Nat) (n:Nat) (t:List UInt8),C t→n+ks.length≤2000→∃ts:List Tok,kts ts=ks∧Xb8 p n (l++t)=(Xb8 (plc p l) (n+ks.length) t).map (ts++·)
def Any (_:List UInt8):Prop:=True
def Brk:List UInt8→Prop
 | []=>True
 | c :: _=>XcZ c=false
theorem map_map {α β γ:Type} (x:Except Flt α) (f:α→β) (g:β→γ):(x.map f).map g=x.map fun a=>g (f a):=by cases x<;>rfl
theorem Xdu.app {C D:List UInt8→Prop} {a b:List UInt8} {ks ms:List (Int × List UInt8)} (ha:Xdu C a ks) (hb:Xdu D b ms) (h:∀t,D t→C (b++t)):Xdu D (a++b) (ks++ms):=by
 intro p n t ht hn
 rw [Xpz] at hn
 obtain ⟨ts,h1,h2⟩:=ha p n (b++t) (h t ht) (by omega)
 obtain ⟨us,h3,h4⟩:=hb (plc p a) (n+ks.length) t ht (by omega)
 refine ⟨ts++us,by simp [kts] at *;rw [h1,h3],?_⟩
 rw [List.append_assoc,h2,h4,map_map,XhS,Xpz,Nat.add_assoc]
 simp only [List.append_assoc]
theorem Xdu.nil:Xdu Any [] []:=fun p n t _ _=>⟨[],rfl,by simp only [Xpx,Xpt,Nat.add_zero,plc];exact (XdL _ _ fun a=>rfl).symm⟩
theorem Xdu.tok {C:List UInt8→Prop} {c:UInt8} {r s:List UInt8} {k:Int} (hb:¬(c.toNat=32∨c.toNat=9∨c.toNat=10∨c.toNat=13)) (h35:c.toNat≠35) (h:∀t,C t→one (c :: r++t)=.ok (k,s,r.length+1)):Xdu C (c :: r) [(k,s)]:=fun p n t ht hn=>by
 simp only [Xpq,Xpt] at hn
 have h0:skp (c :: r++t)=0:=Xki _ _ hb h35
 refine ⟨[⟨k,s,(plc p []).1,(plc p []).2⟩],rfl,?_⟩
 rw [XcO p n (c :: r++t) c (r++t) k s (r.length+1) (by rw [h0];rfl) (h t ht) (by omega) (by omega),h0]
 have e1:(c :: (r++t)).drop (r.length+1)=t:=by rw [List.drop_succ_cons,List.drop_left]
 have e2:(c :: r++t).take (0+(r.length+1))=c :: r:=by rw [Nat.zero_add];exact List.take_left' rfl
 rw [e1,e2]
 rfl
theorem Xkk {p:UInt8→Bool} {t:List UInt8} (ht:∀c r,t=c :: r→p c=false):∀l:List UInt8,(∀b∈l,p b=true)→spn p (l++t)=l.length
 | [],_=>by
   cases t with
   | nil=>rfl
   | cons c r=>rw [Xpx,Xkl p c r (ht c r rfl)];rfl
 | c :: l,h=>by rw [Xpy,Xd6 p c _ (h c (by simp)),Xkk ht l fun b hb=>h b (by simp [hb])];rfl
def XiP:List UInt8→Prop
 | []=>False
 | c :: r=>Xc3 c=true∧∀b∈r,XcZ b=true
def Xox:List UInt8→Prop
 | []=>False
 | c :: r=>XbC c=true∧(∀b∈r,XbC b=true)∧r.length < 18∧(r≠[]→c.toNat≠48)
theorem XjA {b:UInt8} (h:XbC b=true):XcZ b=true:=by simp [XcZ,h]
theorem Xdu.num {d:List UInt8} (h:Xox d):Xdu Brk d [(2,d)]:=by
 cases d with
 | nil=>exact h.elim
 | cons c r=>
   obtain ⟨h1,h2,h3,h4⟩:=h
   have hl:=h1
   simp only [XbC,decide_eq_true_eq] at hl
   refine Xdu.tok (by omega) (by omega) fun t ht=>?_
   have hs:spn XbC (c :: (r++t))=r.length+1:=by
    have:=Xkk (p:=XbC) (t:=t) (fun d u e=>by
     subst e
     cases hd:XbC d with
     | false=>rfl
     | true=>have:=XjA hd;rw [show XcZ d=false from ht] at this;cases this) (c :: r) (fun b hb=>by
     rcases List.mem_cons.1 hb with rfl|hb
     ·exact h1
     ·exact h2 b hb)
    simpa using this
   have hnl:Xc3 c=false:=by simp only [Xc3,decide_eq_false_iff_not];omega
   simp only [Xpy,one,hnl,h1,Bool.false_eq_true,if_false,if_true,hs]
   rw [if_neg (by
    rintro (h|⟨h,h'⟩)
    ·omega
    ·exact h4 (by intro e;subst e;simp at h) h'),List.take_succ_cons,List.take_left]
theorem Xdu.str (s:List UInt8):Xdu Any (Xgo s) [(3,s)]:=by
 show Xdu Any (34 :: (s.flatMap Xec++[34])) [(3,s)]
 refine Xdu.tok (by decide) (by decide) fun t _=>?_
 have h1:Xc3 34=false:=by decide
 have h2:XbC 34=false:=by decide
 simp only [Xpy,List.append_assoc,Xpx,one,h1,h2,Bool.false_eq_true,if_false]
 rw [if_pos (by decide),XhX]
 simp
def Xl0:List UInt8→Prop
 | []=>True
 | [c]=>32≤c.toNat∧c.toNat≠92
 | c :: d :: r=>32≤c.toNat∧(if c.toNat=92 then 32≤d.toNat∧d.toNat≠47∧Xl0 r else Xl0 (d :: r))
/-! ### Numbers -/
def Xni (v:Int):Prop:=0≤v∧v < 1000000000000000000
theorem Xdi (n:Nat) (h:n < 10):XfQ n=[UInt8.ofNat (48+n)]:=by rw [XfQ,dif_pos h]
theorem Xcb (n:Nat) (h:¬n < 10):XfQ n=XfQ (n / 10)++[UInt8.ofNat (48+n % 10)]:=by
 rw [XfQ,dif_neg h,Xdi (n % 10) (by omega)]
/-! ### The text -/
structure Xpb (j:JF):Prop where
 name:XiP j.name∧j.name.length≤32
 run:j.run.length≤512
 env:j.env.length≤16
 enve:∀p∈j.env,XiP p.1∧p.1.length≤32∧p.2.length≤512
 envd:(j.env.map (·.1)).Nodup
 needs:j.needs.length≤16
 neede:∀s∈j.needs,XiP s∧s.length≤32
 needd:j.needs.Nodup
 ready:(j.hasr=true∧Xl0 j.ready∧j.ready.length≤128)∨(j.hasr=false∧j.ready=[])
 restart:j.restart=1∨j.restart=2∨j.restart=3
 base:Xni j.base
 cap:Xni j.cap
 stable:Xni j.stable
 burst:1≤j.burst∧j.burst≤16
 window:Xni j.window
 ladder:j.ladder≠[]∧j.ladder.length≤5
 laddere:∀p∈j.ladder,(p.1=1∨p.1=2∨p.1=3∨p.1=10∨p.1=12∨p.1=15)∧Xni p.2
/-! ### Its tokens -/
abbrev KT:=Int × List UInt8
section
variable {D:List UInt8→Prop} {r w:List UInt8} {c:UInt8} {ms:List KT}
end
open Go.Shelf
def XeS:Go.Shelf.Ren:=⟨fun|156=>43|165=>69|166=>67|169=>23|240=>86|241=>87|276=>97|277=>98|n=>n,fun|31=>30|9=>9|3=>3|4=>4|0=>0|20=>20|72=>69|76=>127|70=>66|37=>67|75=>77|127=>100|164=>108|5=>5|80=>71|n=>n,fun|n=>n⟩
theorem XjE:Go.Proofs.Lays.n156 Tryz.prog XeS:={
 mixed:=by kernel_rfl
 f156:=Tryz.func43.trans (congrArg some (by kernel_rfl))
 f165:=Tryz.func69.trans (congrArg some (by kernel_rfl))
 f166:=Tryz.func67.trans (congrArg some (by kernel_rfl))
 f169:=Tryz.func23.trans (congrArg some (by kernel_rfl))
 f240:=Tryz.func86.trans (congrArg some (by kernel_rfl))
 f241:=Tryz.func87.trans (congrArg some (by kernel_rfl))
 f276:=Tryz.func97.trans (congrArg some (by kernel_rfl))
 f277:=Tryz.func98.trans (congrArg some (by kernel_rfl))
 t0:=Tryz.underlying0
 a0:=Tryz.isAgg0
 z0:=Tryz.sizeOf0
 v0:=Tryz.zeroValue0
 t3:=Tryz.underlying3
 a3:=Tryz.isAgg3
 z3:=Tryz.sizeOf3
 v3:=Tryz.zeroValue3
 t4:=Tryz.underlying4
 a4:=Tryz.isAgg4
 z4:=Tryz.sizeOf4
 v4:=Tryz.zeroValue4
 t9:=Tryz.underlying9
 a9:=Tryz.isAgg9
 z9:=Tryz.sizeOf9
 v9:=Tryz.zeroValue9
 t20:=Tryz.underlying20
 a20:=Tryz.isAgg20
 z20:=Tryz.sizeOf20
 v20:=Tryz.zeroValue20
 t31:=Tryz.underlying30
 a31:=Tryz.isAgg30
 z31:=Tryz.sizeOf30
 v31:=Tryz.zeroValue30
 t37:=Tryz.underlying67
 a37:=Tryz.isAgg67
 z37:=Tryz.sizeOf67
 v37:=Tryz.zeroValue67
 t70:=Tryz.underlying66
 a70:=Tryz.isAgg66
 z70:=Tryz.sizeOf66
 v70:=Tryz.zeroValue66
 t72:=Tryz.underlying69
 a72:=Tryz.isAgg69
 z72:=Tryz.sizeOf69
 v72:=Tryz.zeroValue69
 t75:=Tryz.underlying77
 a75:=Tryz.isAgg77
 z75:=Tryz.sizeOf77
 v75:=Tryz.zeroValue77
 t76:=Tryz.underlying127
 a76:=Tryz.isAgg127
 z76:=Tryz.sizeOf127
 v76:=Tryz.zeroValue127
 t127:=Tryz.underlying100
 a127:=Tryz.isAgg100
 z127:=Tryz.sizeOf100
 v127:=Tryz.zeroValue100
 t164:=Tryz.underlying108
 a164:=Tryz.isAgg108
 z164:=Tryz.sizeOf108
 v164:=Tryz.zeroValue108 }
theorem XcI:Builder.Extra Tryz.prog XeS:={
 sizeBuilder:=by kernel_rfl
 liesBuilder:=by kernel_rfl
 t5:=Tryz.underlying5
 a5:=Tryz.isAgg5
 z5:=Tryz.sizeOf5
 v5:=Tryz.zeroValue5
 infoByte:=by kernel_rfl
 cellsByte:=by kernel_rfl
 sizeByte:=by kernel_rfl
 neB5:=by decide }
open Go.RowKit in
theorem strings_Join_none (a:Option Addr) (c:Nat) (sep:ByteArray) (w:World) :
  Calls Tryz.prog 43 #[.slice a 0 c,.string sep] w fun e w'=>e=.returned (.string ⟨#[]⟩)∧w'=w:=Any.strings_Join_none XjE XcI a c sep w
open Go.RowKit in
theorem strings_Join (bk o c:Nat) (xs:List ByteArray) (sep:ByteArray) (w:World) (hcells:∀(j:Nat) x,xs[j]?=some x→w.cell? ⟨bk,o+j,none⟩=some (.string x)) (hbk:bk < w.heap.size) (hN:xs.length≤140737488355328) (hcap:xs.length≤c) (hlen:(Lib.join (xs.map (·.data.toList)) sep.data.toList).length≤140737488355328) :
  Calls Tryz.prog 43 #[.slice (some ⟨bk,o,none⟩) xs.length c,.string sep] w fun e w'=>e=.returned (.string ⟨(Lib.join (xs.map (·.data.toList)) sep.data.toList).toArray⟩)∧Below w.heap.size w w':=Any.strings_Join XjE XcI bk o c xs sep w hcells hbk hN hcap hlen
def Xg9:Go.Shelf.Ren:=⟨fun|283=>103|n=>n,fun|3=>3|9=>9|4=>4|n=>n,fun|n=>n⟩
theorem XmB:Go.Proofs.Lays.n283 Tryz.prog Xg9:={
 mixed:=by kernel_rfl
 f283:=Tryz.func103.trans (congrArg some (by kernel_rfl))
 t3:=Tryz.underlying3
 a3:=Tryz.isAgg3
 z3:=Tryz.sizeOf3
 v3:=Tryz.zeroValue3
 t4:=Tryz.underlying4
 a4:=Tryz.isAgg4
 z4:=Tryz.sizeOf4
 v4:=Tryz.zeroValue4
 t9:=Tryz.underlying9
 a9:=Tryz.isAgg9
 z9:=Tryz.sizeOf9
 v9:=Tryz.zeroValue9 }
open Go.Lib in
theorem internal_strconv_small (i:Nat) (h:i < 100) (w:World) :
  Calls Tryz.prog 103 #[.int .i64 i] w fun e w'=>e=.returned (.string ⟨(Lib.decDigits i).toArray⟩)∧w'=w:=Any.internal_strconv_small XmB i h w
def Xgi:Go.Shelf.Ren:=⟨fun|284=>104|129=>119|317=>118|318=>120|n=>n,fun|53=>31|3=>3|212=>182|0=>0|4=>4|46=>130|5=>5|9=>9|n=>n,fun|17=>4|n=>n⟩
theorem XkW:Go.Proofs.LaysM.n284 Tryz.prog Xgi:={
 mixed:=by kernel_rfl
 f129:=Tryz.func119.trans (congrArg some (by kernel_rfl))
 f284:=Tryz.func104.trans (congrArg some (by kernel_rfl))
 f317:=Tryz.func118.trans (congrArg some (by kernel_rfl))
 f318:=Tryz.func120.trans (congrArg some (by kernel_rfl))
 t0:=Tryz.underlying0
 a0:=Tryz.isAgg0
 z0:=Tryz.sizeOf0
 v0:=Tryz.zeroValue0
 t3:=Tryz.underlying3
 a3:=Tryz.isAgg3
 z3:=Tryz.sizeOf3
 v3:=Tryz.zeroValue3
 t4:=Tryz.underlying4
 a4:=Tryz.isAgg4
 z4:=Tryz.sizeOf4
 v4:=Tryz.zeroValue4
 t5:=Tryz.underlying5
 a5:=Tryz.isAgg5
 z5:=Tryz.sizeOf5
 v5:=Tryz.zeroValue5
 t9:=Tryz.underlying9
 a9:=Tryz.isAgg9
 z9:=Tryz.sizeOf9
 v9:=Tryz.zeroValue9
 t46:=Tryz.underlying130
 a46:=Tryz.isAgg130
 z46:=Tryz.sizeOf130
 v46:=Tryz.zeroValue130
 t53:=Tryz.underlying31
 a53:=Tryz.isAgg31
 z53:=Tryz.sizeOf31
 v53:=Tryz.zeroValue31
 t212:=Tryz.underlying182
 a212:=Tryz.isAgg182
 z212:=Tryz.sizeOf182
 v212:=Tryz.zeroValue182
 g17:=by kernel_rfl
 i0:=by kernel_rfl
 i3:=by kernel_rfl
 i4:=by kernel_rfl
 i5:=by kernel_rfl
 i9:=by kernel_rfl
 i46:=by kernel_rfl
 i53:=by kernel_rfl
 i212:=by kernel_rfl
 m17:=by kernel_rfl }
open Go.Lib in
theorem internal_strconv_numDigits (u:Nat) (h1:1≤u) (h2:u < 18446744073709551616) (w:World) (htab:Lib.TabIs Tryz.prog w "internal/strconv.uint64pow10" .u64 Lib.pow10Tab) :
  Calls Tryz.prog 104 #[.int .u64 u] w fun e w'=>e=.returned (.int .i64 (Lib.nDigits u))∧w'=w:=Any.internal_strconv_numDigits XkW u h1 h2 w htab
def Xha:Go.Shelf.Ren:=⟨fun|285=>105|n=>n,fun|37=>67|53=>31|3=>3|4=>4|51=>183|9=>9|5=>5|0=>0|n=>n,fun|n=>n⟩
theorem XmC:Go.Proofs.Lays.n285 Tryz.prog Xha:={
 mixed:=by kernel_rfl
 f285:=Tryz.func105.trans (congrArg some (by kernel_rfl))
 t0:=Tryz.underlying0
 a0:=Tryz.isAgg0
 z0:=Tryz.sizeOf0
 v0:=Tryz.zeroValue0
 t3:=Tryz.underlying3
 a3:=Tryz.isAgg3
 z3:=Tryz.sizeOf3
 v3:=Tryz.zeroValue3
 t4:=Tryz.underlying4
 a4:=Tryz.isAgg4
 z4:=Tryz.sizeOf4
 v4:=Tryz.zeroValue4
 t5:=Tryz.underlying5
 a5:=Tryz.isAgg5
 z5:=Tryz.sizeOf5
 v5:=Tryz.zeroValue5
 t9:=Tryz.underlying9
 a9:=Tryz.isAgg9
 z9:=Tryz.sizeOf9
 v9:=Tryz.zeroValue9
 t37:=Tryz.underlying67
 a37:=Tryz.isAgg67
 z37:=Tryz.sizeOf67
 v37:=Tryz.zeroValue67
 t51:=Tryz.underlying183
 a51:=Tryz.isAgg183
 z51:=Tryz.sizeOf183
 v51:=Tryz.zeroValue183
 t53:=Tryz.underlying31
 a53:=Tryz.isAgg31
 z53:=Tryz.sizeOf31
 v53:=Tryz.zeroValue31 }
open Go.RowKit Go.Sort Go.Lib in
theorem internal_strconv_formatBase10 (blk off cap:Nat) (u:Nat) (d:Array UInt8) (w:World) (hH:Holds (fun (b:UInt8)=>Value.int .u8 (b.toNat:Int)) w blk off d) (hu:u < 10 ^ d.size) (hu64:u < 18446744073709551616) (hsz:d.size < 4611686018427387904) :
  Calls Tryz.prog 105 #[.slice (some ⟨blk,off,none⟩) d.size cap,.int .u64 u] w fun e w'=>
   e=.returned (.tuple #[])∧∃(n v':Nat) (dk:Array UInt8),w'=(putRow (fun (b:UInt8)=>Value.int .u8 (b.toNat:Int)) w blk off dk).drewN n∧FmtInv d.size u 0 v' dk:=Any.internal_strconv_formatBase10 XmC blk off cap u d w hH hu hu64 hsz
def Xgh:Go.Shelf.Ren:=⟨fun|171=>125|243=>129|246=>130|283=>103|284=>104|285=>105|286=>106|129=>119|317=>118|318=>120|319=>121|320=>122|337=>127|338=>128|n=>n,fun|3=>3|9=>9|2=>2|4=>4|171=>166|0=>0|53=>31|37=>67|5=>5|173=>169|212=>182|51=>183|20=>20|213=>184|46=>130|232=>196|233=>197|n=>n,fun|17=>4|18=>7|19=>8|n=>n⟩
theorem XkV:Go.Proofs.LaysM.n171 Tryz.prog Xgh:={
 mixed:=by kernel_rfl
 f129:=Tryz.func119.trans (congrArg some (by kernel_rfl))
 f171:=Tryz.func125.trans (congrArg some (by kernel_rfl))
 f243:=Tryz.func129.trans (congrArg some (by kernel_rfl))
 f246:=Tryz.func130.trans (congrArg some (by kernel_rfl))
 f283:=Tryz.func103.trans (congrArg some (by kernel_rfl))
 f284:=Tryz.func104.trans (congrArg some (by kernel_rfl))
 f285:=Tryz.func105.trans (congrArg some (by kernel_rfl))
 f286:=Tryz.func106.trans (congrArg some (by kernel_rfl))
 f317:=Tryz.func118.trans (congrArg some (by kernel_rfl))
 f318:=Tryz.func120.trans (congrArg some (by kernel_rfl))
 f319:=Tryz.func121.trans (congrArg some (by kernel_rfl))
 f320:=Tryz.func122.trans (congrArg some (by kernel_rfl))
 f337:=Tryz.func127.trans (congrArg some (by kernel_rfl))
 f338:=Tryz.func128.trans (congrArg some (by kernel_rfl))
 t0:=Tryz.underlying0
 a0:=Tryz.isAgg0
 z0:=Tryz.sizeOf0
 v0:=Tryz.zeroValue0
 t2:=Tryz.underlying2
 a2:=Tryz.isAgg2
 z2:=Tryz.sizeOf2
 v2:=Tryz.zeroValue2
 t3:=Tryz.underlying3
 a3:=Tryz.isAgg3
 z3:=Tryz.sizeOf3
 v3:=Tryz.zeroValue3
 t4:=Tryz.underlying4
 a4:=Tryz.isAgg4
 z4:=Tryz.sizeOf4
 v4:=Tryz.zeroValue4
 t5:=Tryz.underlying5
 a5:=Tryz.isAgg5
 z5:=Tryz.sizeOf5
 v5:=Tryz.zeroValue5
 t9:=Tryz.underlying9
 a9:=Tryz.isAgg9
 z9:=Tryz.sizeOf9
 v9:=Tryz.zeroValue9
 t20:=Tryz.underlying20
 a20:=Tryz.isAgg20
 z20:=Tryz.sizeOf20
 v20:=Tryz.zeroValue20
 t37:=Tryz.underlying67
 a37:=Tryz.isAgg67
 z37:=Tryz.sizeOf67
 v37:=Tryz.zeroValue67
 t46:=Tryz.underlying130
 a46:=Tryz.isAgg130
 z46:=Tryz.sizeOf130
 v46:=Tryz.zeroValue130
 t51:=Tryz.underlying183
 a51:=Tryz.isAgg183
 z51:=Tryz.sizeOf183
 v51:=Tryz.zeroValue183
 t53:=Tryz.underlying31
 a53:=Tryz.isAgg31
 z53:=Tryz.sizeOf31
 v53:=Tryz.zeroValue31
 t171:=Tryz.underlying166
 a171:=Tryz.isAgg166
 z171:=Tryz.sizeOf166
 v171:=Tryz.zeroValue166
 t173:=Tryz.underlying169
 a173:=Tryz.isAgg169
 z173:=Tryz.sizeOf169
 v173:=Tryz.zeroValue169
 t212:=Tryz.underlying182
 a212:=Tryz.isAgg182
 z212:=Tryz.sizeOf182
 v212:=Tryz.zeroValue182
 t213:=Tryz.underlying184
 a213:=Tryz.isAgg184
 z213:=Tryz.sizeOf184
 t232:=Tryz.underlying196
 a232:=Tryz.isAgg196
 z232:=Tryz.sizeOf196
 v232:=Tryz.zeroValue196
 t233:=Tryz.underlying197
 a233:=Tryz.isAgg197
 z233:=Tryz.sizeOf197
 v233:=Tryz.zeroValue197
 g17:=by kernel_rfl
 g18:=by kernel_rfl
 g19:=by kernel_rfl
 i0:=by kernel_rfl
 i2:=by kernel_rfl
 i3:=by kernel_rfl
 i4:=by kernel_rfl
 i5:=by kernel_rfl
 i9:=by kernel_rfl
 i20:=by kernel_rfl
 i37:=by kernel_rfl
 i46:=by kernel_rfl
 i51:=by kernel_rfl
 i53:=by kernel_rfl
 i171:=by kernel_rfl
 i173:=by kernel_rfl
 i212:=by kernel_rfl
 i232:=by kernel_rfl
 i233:=by kernel_rfl
 m17:=by kernel_rfl
 m18:=by kernel_rfl
 m19:=by kernel_rfl }
open Go.RowKit Go.Sort Go.Lib in
theorem strconv_Itoa (n:Int) (h0 : -9223372036854775808≤n) (h1:n≤9223372036854775807) (w:World) (htab:Lib.TabIs Tryz.prog w "internal/strconv.uint64pow10" .u64 Lib.pow10Tab) :
  Calls Tryz.prog 125 #[.int .i64 n] w fun e w'=>e=.returned (.string ⟨(Lib.itoa n).toArray⟩)∧∃k os,w'=grow (w.drewN k) os:=Any.strconv_Itoa XkV n h0 h1 w htab
def Xg6:Go.Shelf.Ren:=⟨fun|171=>125|243=>129|246=>130|283=>103|284=>104|285=>105|286=>106|129=>119|317=>118|318=>120|319=>121|320=>122|337=>127|338=>128|n=>n,fun|3=>3|9=>9|2=>2|4=>4|171=>166|0=>0|53=>31|37=>67|5=>5|173=>169|212=>182|51=>183|20=>20|213=>184|46=>130|232=>196|233=>197|n=>n,fun|17=>4|18=>7|19=>8|n=>n⟩
theorem Xmz:Go.Proofs.Lays.n171 Tryz.prog Xg6:={
 mixed:=by kernel_rfl
 f129:=Tryz.func119.trans (congrArg some (by kernel_rfl))
 f171:=Tryz.func125.trans (congrArg some (by kernel_rfl))
 f243:=Tryz.func129.trans (congrArg some (by kernel_rfl))
 f246:=Tryz.func130.trans (congrArg some (by kernel_rfl))
 f283:=Tryz.func103.trans (congrArg some (by kernel_rfl))
 f284:=Tryz.func104.trans (congrArg some (by kernel_rfl))
 f285:=Tryz.func105.trans (congrArg some (by kernel_rfl))
 f286:=Tryz.func106.trans (congrArg some (by kernel_rfl))
 f317:=Tryz.func118.trans (congrArg some (by kernel_rfl))
 f318:=Tryz.func120.trans (congrArg some (by kernel_rfl))
 f319:=Tryz.func121.trans (congrArg some (by kernel_rfl))
 f320:=Tryz.func122.trans (congrArg some (by kernel_rfl))
 f337:=Tryz.func127.trans (congrArg some (by kernel_rfl))
 f338:=Tryz.func128.trans (congrArg some (by kernel_rfl))
 t0:=Tryz.underlying0
 a0:=Tryz.isAgg0
 z0:=Tryz.sizeOf0
 v0:=Tryz.zeroValue0
 t2:=Tryz.underlying2
 a2:=Tryz.isAgg2
 z2:=Tryz.sizeOf2
 v2:=Tryz.zeroValue2
 t3:=Tryz.underlying3
 a3:=Tryz.isAgg3
 z3:=Tryz.sizeOf3
 v3:=Tryz.zeroValue3
 t4:=Tryz.underlying4
 a4:=Tryz.isAgg4
 z4:=Tryz.sizeOf4
 v4:=Tryz.zeroValue4
 t5:=Tryz.underlying5
 a5:=Tryz.isAgg5
 z5:=Tryz.sizeOf5
 v5:=Tryz.zeroValue5
 t9:=Tryz.underlying9
 a9:=Tryz.isAgg9
 z9:=Tryz.sizeOf9
 v9:=Tryz.zeroValue9
 t20:=Tryz.underlying20
 a20:=Tryz.isAgg20
 z20:=Tryz.sizeOf20
 v20:=Tryz.zeroValue20
 t37:=Tryz.underlying67
 a37:=Tryz.isAgg67
 z37:=Tryz.sizeOf67
 v37:=Tryz.zeroValue67
 t46:=Tryz.underlying130
 a46:=Tryz.isAgg130
 z46:=Tryz.sizeOf130
 v46:=Tryz.zeroValue130
 t51:=Tryz.underlying183
 a51:=Tryz.isAgg183
 z51:=Tryz.sizeOf183
 v51:=Tryz.zeroValue183
 t53:=Tryz.underlying31
 a53:=Tryz.isAgg31
 z53:=Tryz.sizeOf31
 v53:=Tryz.zeroValue31
 t171:=Tryz.underlying166
 a171:=Tryz.isAgg166
 z171:=Tryz.sizeOf166
 v171:=Tryz.zeroValue166
 t173:=Tryz.underlying169
 a173:=Tryz.isAgg169
 z173:=Tryz.sizeOf169
 v173:=Tryz.zeroValue169
 t212:=Tryz.underlying182
 a212:=Tryz.isAgg182
 z212:=Tryz.sizeOf182
 v212:=Tryz.zeroValue182
 t213:=Tryz.underlying184
 a213:=Tryz.isAgg184
 z213:=Tryz.sizeOf184
 t232:=Tryz.underlying196
 a232:=Tryz.isAgg196
 z232:=Tryz.sizeOf196
 v232:=Tryz.zeroValue196
 t233:=Tryz.underlying197
 a233:=Tryz.isAgg197
 z233:=Tryz.sizeOf197
 v233:=Tryz.zeroValue197
 g17:=by kernel_rfl
 g18:=by kernel_rfl
 g19:=by kernel_rfl }
open Go.RowKit Go.Sort Go.Lib in
theorem strconv_Itoa_small (i:Nat) (hi:i < 100) (w:World) :
  Calls Tryz.prog 125 #[.int .i64 i] w fun e w'=>e=.returned (.string ⟨(Lib.decDigits i).toArray⟩)∧w'=w:=Any.strconv_Itoa_small Xmz i hi w
def Xg8:Go.Shelf.Ren:=⟨fun|219=>101|217=>92|225=>115|224=>116|267=>117|266=>107|314=>126|n=>n,fun|9=>9|3=>3|4=>4|5=>5|46=>130|146=>190|51=>183|n=>n,fun|1=>1|n=>n⟩
theorem XmA:Go.Proofs.Lays.n219 Tryz.prog Xg8:={
 mixed:=by kernel_rfl
 f217:=Tryz.func92.trans (congrArg some (by kernel_rfl))
 f219:=Tryz.func101.trans (congrArg some (by kernel_rfl))
 f224:=Tryz.func116.trans (congrArg some (by kernel_rfl))
 f225:=Tryz.func115.trans (congrArg some (by kernel_rfl))
 f266:=Tryz.func107.trans (congrArg some (by kernel_rfl))
 f267:=Tryz.func117.trans (congrArg some (by kernel_rfl))
 f314:=Tryz.func126.trans (congrArg some (by kernel_rfl))
 t3:=Tryz.underlying3
 a3:=Tryz.isAgg3
 z3:=Tryz.sizeOf3
 v3:=Tryz.zeroValue3
 t4:=Tryz.underlying4
 a4:=Tryz.isAgg4
 z4:=Tryz.sizeOf4
 v4:=Tryz.zeroValue4
 t5:=Tryz.underlying5
 a5:=Tryz.isAgg5
 z5:=Tryz.sizeOf5
 v5:=Tryz.zeroValue5
 t9:=Tryz.underlying9
 a9:=Tryz.isAgg9
 z9:=Tryz.sizeOf9
 v9:=Tryz.zeroValue9
 t46:=Tryz.underlying130
 a46:=Tryz.isAgg130
 z46:=Tryz.sizeOf130
 v46:=Tryz.zeroValue130
 t51:=Tryz.underlying183
 a51:=Tryz.isAgg183
 z51:=Tryz.sizeOf183
 v51:=Tryz.zeroValue183
 t146:=Tryz.underlying190
 a146:=Tryz.isAgg190
 z146:=Tryz.sizeOf190
 v146:=Tryz.zeroValue190
 g1:=by kernel_rfl }
open Go.RowKit Go.Lib in
theorem stringslite_Index_one (s:ByteArray) (c:UInt8) (w:World) :
  Calls Tryz.prog 101 #[.string s,.string ⟨#[c]⟩] w fun e w'=>e=.returned (.int .i64 (Lib.indexByte s.data.toList c))∧w'=w:=Any.stringslite_Index_one XmA s c w
open Go.RowKit
theorem XgC {P:Program} {f:FuncId} {args:List Value} {Q:Value→Prop} (h:∀w,Gw w→Calls P f args.toArray w fun e w'=>∃v,e=.returned v∧Q v∧Ext w w') (H:List Hp):Xbv P f H (args.map .x) fun r H'=>∃v,Q v∧r=.x v∧H'=H:=by
 intro V w vs hV hH hd hgl
 rw [hd.exact']
 refine (h w hgl.2).mono ?_
 rintro e w' ⟨v,rfl,hq,hE⟩
 exact ⟨.x v,H,v,⟨v,hq,rfl,rfl⟩,rfl,by rw [Den],⟨fun x hx=>(hH.ok x hx).conv (fun k hk=>.inl hk) (fun k hk _=>hE.block k hk) hE.size (fun k hk=>hE.block k (hH.lt x hx k hk).1),hH.apart,fun x hx k hk=>⟨Nat.lt_of_lt_of_le (hH.lt x hx k hk).1 hE.size,(hH.lt x hx k hk).2⟩⟩,hE.fr _,fun x hx k hk=>.inl ⟨x,hx,hk⟩⟩
theorem XkI (n:Nat):XfQ n=Lib.decDigits n:=by
 induction n using Nat.strongRecOn with
 | _ n ih=>
   by_cases h:n < 10
   ·rw [XfQ,dif_pos h,Lib.decDigits,dif_pos h]
   ·rw [Xcb n h,ih (n / 10) (by omega)]
    conv=>rhs;rw [Lib.decDigits,dif_neg h]
def Xo9:Prop:=∀v:Int,0≤v→v≤18446744073709551615→Xbv Tryz.prog 71 [] [.x (.int .u64 v),.x (.int .i64 10)] (fun r H'=>r=.x (.string (bs (XfQ v.toNat)))∧H'=[])
open Go.RowKit Go.Shelf Go.Sort Go.Lib
theorem Xir (i:Nat) (hi:i < 100) (w:World):Calls Tryz.prog 91 #[.int .u64 i,.int .i64 10] w fun e w'=>e=.returned (.string ⟨(Lib.decDigits i).toArray⟩)∧∃k os,w'=grow (w.drewN k) os:=by
 have hmx:=mixed
 have iu:(i:Int) < 100:=by omega
 go_enter Tryz.func91,Tryz.ntmps91
 go_wp2_with (go_at_call 103;refine (internal_strconv_small i hi _).mono ?_;rintro e w' ⟨rfl,rfl⟩)
 go_ret
 exact ⟨rfl,0,#[],by simp [World.drewN_zero]⟩
theorem XkN (u:Nat) (hu:100≤u) (hu64:u < 18446744073709551616) (w:World) (htab:Lib.TabIs Tryz.prog w "internal/strconv.uint64pow10" .u64 Lib.pow10Tab) :
  Calls Tryz.prog 91 #[.int .u64 u,.int .i64 10] w fun e w'=>e=.returned (.string ⟨(Lib.decDigits u).toArray⟩)∧∃k os,w'=grow (w.drewN k) os:=by
 have hmx:=mixed
 have hu1:1≤u:=by omega
 have hnd20:Lib.nDigits u≤20:=by have:=Lib.numDigits_eq u hu1 hu64;split at this<;>omega
 have hal:Tryz.prog.arrayLen 166=24:=by simp [Program.arrayLen,Tryz.underlying166]
 have hsl:∀W,(Instr.sliceAt 166 (.pointer (some ⟨w.heap.size,0,none⟩)) none (some (.int .i64 (Lib.nDigits u:Int))) none).run Tryz.prog W=.ok (.slice (some ⟨w.heap.size,0,none⟩) (Lib.nDigits u) 24) W:=fun W=>by
  rw [run_sliceAt_array_h W 166 ⟨w.heap.size,0,none⟩ (by simp [Program.arrayLen,Program.elem,Tryz.underlying166]) .i64 (Lib.nDigits u:Int) (by omega) (by rw [hal];omega)]
  go_simp
 have hH0:=Lib.holds_zero0 w 166 (Lib.nDigits u) (by omega)
 have hfmt:=internal_strconv_formatBase10 w.heap.size 0 24 u (Array.replicate (Lib.nDigits u) 0) (w.alloc (.cells Lib.zeros24 166)) hH0 (by rw [Array.size_replicate];exact Lib.lt_pow_nDigits u) hu64 (by rw [Array.size_replicate];omega)
 rw [Array.size_replicate] at hfmt
 have HH0:=Lib.hid hH0
 have iu:(100:Int)≤(u:Int):=by omega
 clear hH0 hal
 go_enter Tryz.func91,Tryz.ntmps91
 go_wp2_with (first
  | (go_at_call 104;refine (internal_strconv_numDigits u hu1 hu64 _ (Lib.tabIs_alloc htab _)).mono ?_;rintro e w' ⟨rfl,rfl⟩))
 go_at_call 105
 refine hfmt.mono ?_
 rintro e w' ⟨rfl,k,v',dk,rfl,hF⟩
 have hcv:(convert 67 9 (.slice (some ⟨w.heap.size,0,none⟩) (Lib.nDigits u) 24)).run Tryz.prog ((putRow (fun (b:UInt8)=>Value.int .u8 (b.toNat:Int)) (w.alloc (.cells Lib.zeros24 166)) w.heap.size 0 dk).drewN k)=.ok (.string ⟨(Lib.decDigits u).toArray⟩) ((putRow (fun (b:UInt8)=>Value.int .u8 (b.toNat:Int)) (w.alloc (.cells Lib.zeros24 166)) w.heap.size 0 dk).drewN k):=by
  have h:=run_convert_bytes_back (P:=Tryz.prog) ((putRow (fun (b:UInt8)=>Value.int .u8 (b.toNat:Int)) (w.alloc (.cells Lib.zeros24 166)) w.heap.size 0 dk).drewN k) 67 9 5 ⟨w.heap.size,0,none⟩ 24 (Lib.decDigits u) Tryz.underlying67 Tryz.underlying5 Tryz.underlying9 (fun j hj=>by
   rw [Lib.row_is_numeral hF j hj,Lib.add_plain,World.cell?_drewN]
   exact cell?_putRow (fun (b:UInt8)=>Value.int .u8 (b.toNat:Int)) _ w.heap.size 0 _ dk HH0.out (by rw [hF.size,Array.size_replicate]) j (by rw [hF.size];rw [Lib.decDigits_length] at hj;exact hj))
  rw [Lib.decDigits_length] at h
  exact h
 go_wp2
 go_ret
 obtain ⟨os,eo⟩:=Lib.fin_at w (.cells Lib.zeros24 166) dk k 0
 exact ⟨rfl,k,os,eo⟩
theorem Xpg:Xo9:=by
 intro v h0 h1
 obtain ⟨u,rfl⟩:∃u:Nat,v=u:=⟨v.toNat,by omega⟩
 refine (XgC (args:=[.int .u64 u,.int .i64 10]) (Q:=fun x=>x=.string (bs (XfQ u))) (fun w hg=>?_) []).mono fun r H' ⟨x,hv,hr,hH⟩=>⟨by rw [hr,hv,Int.toNat_natCast],hH⟩
 have key:∀w:World,Lib.TabIs Tryz.prog w "internal/strconv.uint64pow10" .u64 Lib.pow10Tab→Calls Tryz.prog 91 #[.int .u64 u,.int .i64 10] w fun e w'=>e=.returned (.string ⟨(Lib.decDigits u).toArray⟩)∧∃k os,w'=grow (w.drewN k) os:=fun w hw=>by
  by_cases hs:u < 100
  ·exact Xir u hs w
  ·exact XkN u (by omega) (by omega) w hw
 have hp:=hg.pow
 have hmx:=mixed
 go_enter Tryz.func71,Tryz.ntmps71
 go_wp2_with (go_at_call 91;refine (key _ hp).mono ?_;rintro e w' ⟨rfl,k,os,rfl⟩)
 go_ret
 exact ⟨_,rfl,by rw [XkI];rfl,Go.Lib.below_grow w.heap.size w (Nat.le_refl _) k os⟩
theorem XnL (xs:List (List UInt8)) (sep:List UInt8) (h0:xs≠[]) (hn:xs.length≤1000) (hl:(Lib.join xs sep).length≤1000000):Xbv Tryz.prog 43 [] [.sq xs.length (sa xs),.x (.string (bs sep))] (fun r H'=>r=.x (.string (bs (Lib.join xs sep)))∧H'=[]):=by
 intro V w vs hV hH hd hgl
 rw [DenL] at hd
 obtain ⟨u,us,rfl,d0,hd⟩:=hd
 rw [DenL] at hd
 obtain ⟨u1,us1,rfl,d1,hd⟩:=hd
 rw [DenL] at hd
 subst hd
 rw [Den] at d1
 subst d1
 rw [Den] at d0
 obtain ⟨ad,cap,vals,rfl,hnc,hcm,-,hm,hv⟩:=d0
 have hvals:vals=xs.map fun s=>Value.string (bs s):=by
  have e:sa xs=(xs.map fun s=>Value.string (bs s)).map .x:=by simp [sa]
  rw [e] at hv
  exact hv.exact'
 subst hvals
 rcases hm with hm|⟨b,o,rfl,-,hc⟩
 ·simp at hm;exact absurd hm h0
 have hbk:b < w.heap.size:=by
  obtain ⟨x,r,rfl⟩:∃x r,xs=x :: r:=by
   cases xs with
   | nil=>exact absurd rfl h0
   | cons x r=>exact ⟨x,r,rfl⟩
  have h1:=(hc 0 _ rfl).1
  unfold World.cell? at h1
  cases hb:w.heap[b]? with
  | none=>rw [hb] at h1;cases h1
  | some ob=>exact (Array.getElem?_eq_some_iff.1 hb).1
 have e1:(xs.map bs).map (·.data.toList)=xs:=by simp [bs,Function.comp_def]
 have e2:(bs sep).data.toList=sep:=by simp [bs]
 have hJ:=strings_Join b o cap (xs.map bs) (bs sep) w (fun j x hj=>by
  rw [List.getElem?_map] at hj
  cases hx:xs[j]? with
  | none=>rw [hx] at hj;cases hj
  | some s=>
    rw [hx] at hj;cases hj
    exact (hc j _ (by rw [List.getElem?_map,hx];rfl)).1) hbk (by rw [List.length_map];omega) (by rw [List.length_map];exact hnc) (by rw [e1,e2];omega)
 rw [e1,e2,List.length_map] at hJ
 have r:Rel [] V (XbO []) w [] [] { tmps:=#[],defers:=[] } w:=⟨DenL.nil',hH,Fr.refl _ _,(fun x hx=>by cases hx),rfl,hV,hgl⟩
 refine hJ.mono ?_
 rintro e w' ⟨rfl,hE⟩
 have r2:=r.quiet hE
 exact ⟨.x (.string (bs (Lib.join xs sep))),[],_,⟨rfl,rfl⟩,rfl,Xcu _,r2.hok,r2.fr,r2.own⟩
theorem XlO (b:Nat) (p:Option Addr) (hp:p=none∨p=some ⟨b,0,none⟩) (ad:Option Addr) (cap:Nat) (X:List UInt8) (xs:List (List UInt8)) (h0:xs≠[]) (hn:xs.length≤1000) (hl:(Lib.join xs [32]).length≤100000) (hX:X.length≤100000):Xbv Tryz.prog 41 [.row (some ⟨b,0,none⟩) 1 1 69 2 [.x (.pointer p),.x (.slice ad X.length cap)],.row ad X.length cap 5 1 (u8a X)] [.x (.pointer (some ⟨b,0,none⟩)),.sq xs.length (sa xs)] (fun r H'=>∃ad' cap',r=.x (.tuple #[])∧H'=XdE b ad' cap' (X++Lib.join xs [32]++[10])):=by
 have hJ:=XnL xs [32] h0 hn (by omega)
 generalize Lib.join xs [32]=J at hJ hl
 refine XaP Tryz.func41 rfl ?_
 simp only [Tryz.ntmps41,Xpq,Xpt,Xpu,Xpv,Xpy,Xpx,Nat.reduceAdd,Nat.reduceSub]
 (repeat' (first|with_reducible (first|refine Xaj ?_|refine Xac ?_|refine Xaf ?_|refine Xaa ?_)|((apply Xad rfl);(case h=>((try (intro (hp:(_:Bool)=true);((try simp only [Bool.and_eq_true,Bool.not_eq_true',Bool.not_eq_true] at hp);(try simp only [hp,wte]);(try simp only [whn] at hp))));(first|(apply Xab 0 rfl;(exact Xar _ rfl))|(apply Xab 11 rfl;(exact XaE 43 Tryz.f43 _ _ rfl rfl Tryz.func43 (by decide) rfl (VwL.refl _ _) (hJ))))));(case hT=>((try simp (disch:=omega) only [wtn,XdE,Xpr,Xpo,Xpp,Xps,Xpw,Nat.reduceAdd,Nat.reduceMul,Nat.reduceSub,↓reduceIte,Nat.reduceEqDiff]);rfl)))|(refine Xak rfl ?_;((refine Xap 11 rfl ?_;(first|(refine Xax 67 Tryz.f67 [_,_] _ _ _ rfl rfl Tryz.func67 (by decide) rfl (Xpn _) (VwL.refl _ _) (Xok b p hp ad cap X J (by omega)) ?_;rintro _ _ ⟨ad1,cap1,rfl,rfl⟩)|(refine Xax 68 Tryz.f68 [_,_] _ _ _ rfl rfl Tryz.func68 (by decide) rfl (Xpn _) (VwL.refl _ _) (Xnd b _ (.inr rfl) ad1 cap1 (X++J) 10 (by rw [Xpz];omega)) ?_;rintro _ _ ⟨ad2,cap2,rfl,rfl⟩)));apply Xai;(case hT=>((try simp (disch:=omega) only [wtn,XdE,Xpr,Xpo,Xpp,Xps,Xpw,Nat.reduceAdd,Nat.reduceMul,Nat.reduceSub,↓reduceIte,Nat.reduceEqDiff]);rfl));(case hH=>((try simp (disch:=omega) only [wtn,XdE,Xpr,Xpo,Xpp,Xps,Xpw,Nat.reduceAdd,Nat.reduceMul,Nat.reduceSub,↓reduceIte,Nat.reduceEqDiff]);rfl))))|fail))
 refine Xcj _ _ (Xeu rfl (XaK.mk' [] _ (Xpn _) (XaI.refl _ _) VwL.nil)) ⟨ad2,cap2,rfl,rfl⟩
theorem Xlf:Xbv Tryz.prog 45 [] [.x (.int .i64 2)] (fun r H'=>r=.x (.string (bs [111,110,45,102,97,105,108,117,114,101]))∧H'=[]):=by
 refine XaP Tryz.func45 rfl ?_
 simp only [Tryz.ntmps45,Xpq,Xpt,Xpu,Xpv,Xpy,Xpx,Nat.reduceAdd,Nat.reduceSub]
 (repeat' (first|with_reducible (first|refine Xaj ?_|refine Xac ?_|refine Xas ?_|refine Xaw ?_|refine Xaf ?_|refine Xaa ?_|refine XaA ?_|refine Xau ?_)|(refine Xal _ rfl (fun h=>?_) (fun h=>?_)<;>first|(exact absurd h (by decide))|((try (simp only [whn] at h));skip))|((apply Xad rfl);(case h=>((try (intro (hp:(_:Bool)=true);((try simp only [Bool.and_eq_true,Bool.not_eq_true',Bool.not_eq_true] at hp);(try simp only [hp,wte]);(try simp only [whn] at hp))));(first|(apply Xab 0 rfl;(first|exact Xar _ rfl|exact Xav _ rfl))|(apply XaJ;(case hs=>(intro _ _ h;cases h));(case hx=>rfl);(case hrun=>(intro w;simp [wtb,AV.val,go_sem];(try go_bits);rfl))))));(case hT=>((try simp only [wtn,Xpr,Xpo,Xpp,Xps,Xpw,Nat.reduceAdd,Nat.reduceMul,Nat.reduceSub,↓reduceIte,Nat.reduceEqDiff]);rfl)))|fail))
 refine Xan _ _ (Xb2 rfl (RV.tmp _) (XaK.mk' [] _ (Xpn _) (XaI.refl _ _) (VwL.refl _ _))) ?_
 exact ⟨rfl,rfl⟩
theorem Xj3 (v:Int) (h0:0≤v) (h1:v≤18446744073709551615):Xbv Tryz.prog 46 [] [.x (.int .u64 v)] (fun r H'=>r=.x (.string (bs (XfQ v.toNat)))∧H'=[]):=by
 have hU:=Xpg v h0 h1
 refine XaP Tryz.func46 rfl ?_
 simp only [Tryz.ntmps46,Xpq,Xpt,Xpu,Xpv,Xpy,Xpx,Nat.reduceAdd,Nat.reduceSub]
 (repeat' (first|with_reducible (first|refine Xaj ?_|refine Xac ?_|refine Xaw ?_|refine Xaf ?_|refine Xaa ?_)|((apply Xad rfl);(case h=>((try (intro (hp:(_:Bool)=true);((try simp only [Bool.and_eq_true,Bool.not_eq_true',Bool.not_eq_true] at hp);(try simp only [hp,wte]);(try simp only [whn] at hp))));(first|(apply Xab 0 rfl;(first|exact Xar _ rfl|exact Xav _ rfl))|(apply Xab 11 rfl;(exact XaE 71 Tryz.f71 _ _ rfl rfl Tryz.func71 (by decide) rfl (VwL.refl _ _) (hU))))));(case hT=>((try simp only [wtn,Xpr,Xpo,Xpp,Xps,Xpw,Nat.reduceAdd,Nat.reduceMul,Nat.reduceSub,↓reduceIte,Nat.reduceEqDiff]);rfl)))|fail))
 refine Xan _ _ (Xb2 rfl (RV.tmp _) (XaK.mk' [] _ (Xpn _) (XaI.refl _ _) (VwL.refl _ _))) ?_
 exact ⟨rfl,rfl⟩
theorem Xkf:Xbv Tryz.prog 47 [] [.x (.int .i64 15)] (fun r H'=>r=.x (.string (bs [84,69,82,77]))∧H'=[]):=by
 refine XaP Tryz.func47 rfl ?_
 simp only [Tryz.ntmps47,Xpq,Xpt,Xpu,Xpv,Xpy,Xpx,Nat.reduceAdd,Nat.reduceSub]
 (repeat' (first|with_reducible (first|refine Xaj ?_|refine Xac ?_|refine Xas ?_|refine Xaw ?_|refine Xaf ?_|refine Xaa ?_|refine XaA ?_|refine Xau ?_)|(refine Xal _ rfl (fun h=>?_) (fun h=>?_)<;>first|(exact absurd h (by decide))|((try (simp only [whn] at h));skip))|((apply Xad rfl);(case h=>((try (intro (hp:(_:Bool)=true);((try simp only [Bool.and_eq_true,Bool.not_eq_true',Bool.not_eq_true] at hp);(try simp only [hp,wte]);(try simp only [whn] at hp))));(first|(apply Xab 0 rfl;(first|exact Xar _ rfl|exact Xav _ rfl))|(apply XaJ;(case hs=>(intro _ _ h;cases h));(case hx=>rfl);(case hrun=>(intro w;simp [wtb,AV.val,go_sem];(try go_bits);rfl))))));(case hT=>((try simp only [wtn,Xpr,Xpo,Xpp,Xps,Xpw,Nat.reduceAdd,Nat.reduceMul,Nat.reduceSub,↓reduceIte,Nat.reduceEqDiff]);rfl)))|fail))
 refine Xan _ _ (Xb2 rfl (RV.tmp _) (XaK.mk' [] _ (Xpn _) (XaI.refl _ _) (VwL.refl _ _))) ?_
 exact ⟨rfl,rfl⟩
section
variable {P:Program} {T:List AV} {H:List Hp}
def Xoz (P:Program) (c:Code) (Q:Xb9) (T:List AV) (H:List Hp):Prop:=
 ∀(Δ:List Deferred) (V O:Nat→Prop) (w0:World) (a:Act) (w:World),Rel Δ V O w0 H T a w→∀(b:Frame) (k:List Item) (cs:List Frame),
  ∃e a' w',Xee Δ V O w0 Q e a' w'∧Arrives P (lone (b.at a (.code c :: .inLoop c :: k)) cs w) b k cs e a' w'
theorem XeE {c:Code} {Q:Xb9} (h:Xoz P c Q T H):awp P (.loop c) Q T H:=by
 intro Δ V O w0 a w r b k cs
 obtain ⟨e,a',w',hq,harr⟩:=h Δ V O w0 a w r b k cs
 exact ⟨e,a',w',hq,.of_steps (.one step_loop) harr⟩
theorem XcL {c:Code} {Q:Xb9} (h:awp P c (Xa1 (fun T H=>Xoz P c Q T H) Q) T H):Xoz P c Q T H:=by
 intro Δ V O w0 a w r b k cs
 obtain ⟨e,a₁,w₁,⟨T1,H1,r1,q1⟩,harr⟩:=h Δ V O w0 a w r b (.inLoop c :: k) cs
 cases e with
 | normal=>
   obtain ⟨e₂,a₂,w₂,hq₂,harr₂⟩:=q1 Δ V O w0 a₁ w₁ r1 b k cs
   exact ⟨e₂,a₂,w₂,hq₂,.of_steps (Steps.trans harr (.one step_inLoop)) harr₂⟩
 | exit id=>exact ⟨_,a₁,w₁,⟨T1,H1,r1,q1⟩,.pass (x:=.inLoop c) rfl (fun _ _=>.inl (by simp)) harr⟩
 | goto l=>exact ⟨_,a₁,w₁,⟨T1,H1,r1,q1⟩,.pass (x:=.inLoop c) rfl (fun _ _=>.inl (by simp)) harr⟩
 | ret=>exact ⟨_,a₁,w₁,⟨T1,H1,r1,q1⟩,.pass (x:=.inLoop c) rfl (fun _ _=>.inl (by simp)) harr⟩
 | panic ch=>exact ⟨_,a₁,w₁,⟨T1,H1,r1,q1⟩,.pass (x:=.inLoop c) rfl (fun _ _=>.inl (by simp)) harr⟩
 | outgrown=>exact ⟨_,a₁,w₁,⟨T1,H1,r1,q1⟩,.pass (x:=.inLoop c) rfl (fun _ _=>.inl (by simp)) harr⟩
end
end Go.Proofs.YtcmfamgnmehojaaGreatDoor
