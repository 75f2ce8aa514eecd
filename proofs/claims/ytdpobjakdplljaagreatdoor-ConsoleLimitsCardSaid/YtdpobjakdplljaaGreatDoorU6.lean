import Derived.Test.YtdpobjakdplljaaGreatDoorU5
import Derived.Test.YtdpobjakdplljaaGreatDoorRows
import Derived.Test.YtdpobjakdplljaaGreatDoorU0
import Derived.Lib.AppendZeros
import Derived.Test.YtdpobjakdplljaaGreatDoorU2
/- A walk over symbolic memory: the walk's rules, in bundles; where a block stands. No program in sight. -/
set_option linter.unusedSimpArgs false
set_option linter.unusedVariables false
set_option maxRecDepth 100000
set_option maxHeartbeats 8000000
namespace Go.Proofs.YtdpobjakdplljaaGreatDoor
open Go.RowKit
set_option linter.defProp false
/-! Where a block of the call's own stands. -/
class Xa3 (H:List Hp) (b:Nat) (p:outParam Nat) (cells:outParam (List AV)):Prop where out:H[p]?=some (.box b cells)
instance {x:Hp} {H:List Hp} {b p:Nat} {cells:List AV} [h:Xa3 H b p cells]:Xa3 (x :: H) b (p+1) cells:=⟨by simpa using h.out⟩
instance {H:List Hp} {b:Nat} {cells:List AV}:Xa3 (.box b cells :: H) b 0 cells:=⟨rfl⟩
class XbR (H:List Hp) (ad:Option Addr) (p n cap:outParam Nat) (e:outParam TypeId) (size:outParam Nat) (cells:outParam (List AV)):Prop where out:H[p]?=some (.row ad n cap e size cells)
instance {x:Hp} {H:List Hp} {ad:Option Addr} {p n cap:Nat} {e:TypeId} {size:Nat} {cells:List AV} [h:XbR H ad p n cap e size cells]:XbR (x :: H) ad (p+1) n cap e size cells:=⟨by simpa using h.out⟩
instance {H:List Hp} {ad:Option Addr} {n cap:Nat} {e:TypeId} {size:Nat} {cells:List AV}:XbR (.row ad n cap e size cells :: H) ad 0 n cap e size cells:=⟨rfl⟩
/-! The rules. -/
theorem XoW (T:List AV) (t:Nat):ev T (.tmp t)=T.getD t .top:=rfl
theorem XlU (T:List AV) (v:Value):ev T (.const v)=.x v:=rfl
theorem XkG (T:List AV) (g:Nat):ev T (.global g)=.x (.pointer (some ⟨g,0,none⟩)):=rfl
theorem XnF (T:List AV) (f:Nat):ev T (.func f)=.x (.func (.func f) #[] #[]):=rfl
theorem XoX (T:List AV) (x:Operand):evs T x=str (ev T x):=rfl
theorem Xp1 (v:AV):str (.g true v)=v:=rfl
theorem Xpq (v:AV):str (.g false v)=.g false v:=rfl
theorem Xp2 (v:Value):str (.x v)=.x v:=rfl
theorem Xot:str .top=.top:=rfl
theorem Xps (n:Nat) (l:List AV):str (.sq n l)=.sq n l:=rfl
theorem Xpo (l:List AV):str (.at_ l)=.at_ l:=rfl
theorem Xor (l:List AV):str (.agg l)=.agg l:=rfl
theorem Xou (l:List AV):str (.tup l)=.tup l:=rfl
theorem Xos (t:TypeId) (v:AV):str (.ifc t v)=.ifc t v:=rfl
theorem Xla (T:List AV) (d:Nat) (av:AV):XbW T (some d) av=T.set d av:=rfl
theorem Xk9 (T:List AV) (av:AV):XbW T none av=T:=rfl
theorem Xp5 (v:Value):AV.val (.x v)=v:=rfl
theorem XpU (n:Nat) (l:List AV):ldA true n l=mkA (l.take n):=rfl
theorem XpT (n:Nat) (l:List AV):ldA false n l=l.getD 0 .top:=rfl
theorem Xpa (l:List AV):mkA l=if l.all AV.ex then .x (.agg (l.map AV.val).toArray) else .agg l:=rfl
def wtb:=And.intro XoW (And.intro XlU (And.intro XkG (And.intro XnF (And.intro XoX (And.intro Xp1 (And.intro Xpq (And.intro Xp2 (And.intro Xot (And.intro Xps (And.intro Xpo (And.intro Xor (And.intro Xou (And.intro Xos (And.intro Xla (And.intro Xk9 Xp5)))))))))))))))
def wtc:=And.intro Xkh (And.intro Xjc (And.intro XgK (And.intro XhF (And.intro XfZ (And.intro Xfs (And.intro XhE (And.intro Xjd (And.intro XlM (And.intro XlL (And.intro Xkg (And.intro Xkf Xjb)))))))))))
def wtd:=And.intro XpU (And.intro XpT (And.intro Xpa (And.intro Xqp (And.intro XpN (And.intro XpM (And.intro XoY (And.intro Xpu (And.intro XoE (And.intro Xlr (And.intro XmK (And.intro Xpt (And.intro XmF XmG))))))))))))
def wte:=And.intro (@Bool.and_false) (And.intro (@Bool.false_and) (And.intro (@Bool.and_true) (And.intro (@Bool.true_and) (And.intro Bool.false_eq_true (And.intro Bool.not_true (And.intro Bool.not_false Int.toNat_natCast))))))
def wtl:=And.intro (@List.all_cons.{0}) (And.intro (@List.all_nil.{0}) (And.intro (@XqC.{0}) (And.intro (@XqD.{0}) (And.intro (@List.flatten_cons.{0}) (And.intro (@List.flatten_nil.{0}) (And.intro (@List.drop_nil.{0}) (And.intro (@XqJ.{0}) (And.intro (@XqK.{0}) (And.intro (@List.getD_cons_zero.{0}) (And.intro (@List.getD_cons_succ.{0}) (And.intro (@XqF.{0}) (And.intro (@XqG.{0}) (And.intro (@List.append_nil.{0}) (And.intro (@List.drop_zero.{0}) (And.intro (@List.drop_succ_cons.{0}) (And.intro (@List.take_zero.{0}) (And.intro (@List.take_succ_cons.{0}) (And.intro (@XqA.{0,0}) (And.intro (@XqE.{0,0}) (And.intro (@Xqy.{0}) (And.intro (@XqB.{0}) (And.intro Nat.zero_add (And.intro Nat.mul_one Nat.add_zero)))))))))))))))))))))))
def wtn:=And.intro wtb (And.intro wtc (And.intro wtd (And.intro wte wtl)))
def won:=And.intro XpX (And.intro Xpc (And.intro Xpb Xof))
def wlq:=And.intro wtb wtc
def whn:=And.intro (@decide_eq_true_eq) (And.intro (@decide_eq_false_iff_not) (And.intro (@beq_iff_eq.{0}) (And.intro (@XqM.{0}) (And.intro (@bne_iff_ne.{0}) (And.intro (@bne_eq_false_iff_eq.{0}) (And.intro (@Bool.not_eq_true) (And.intro (@Bool.not_eq_false) (And.intro (@Bool.not_eq_true') (And.intro (@Bool.not_eq_false') (And.intro Bool.not_true (And.intro Bool.not_false (And.intro (@Bool.and_eq_true) (And.intro (@Bool.or_eq_true) (And.intro (@Bool.and_eq_false_iff) (And.intro (@Bool.or_eq_false_iff) (@ne_eq.{1}))))))))))))))))
set_option maxRecDepth 100000
instance:XaZ Tryz.prog 3 false 1:=⟨by kernel_rfl⟩
instance:XaX Tryz.prog 3 1:=⟨by kernel_rfl⟩
instance:Xbu Tryz.prog 3 (Value.int IntKind.i64 0):=⟨by kernel_rfl⟩
instance:XaZ Tryz.prog 4 false 1:=⟨by kernel_rfl⟩
instance:XaX Tryz.prog 4 1:=⟨by kernel_rfl⟩
instance:XaX Tryz.prog 5 1:=⟨by kernel_rfl⟩
instance:XaZ Tryz.prog 9 false 1:=⟨by kernel_rfl⟩
instance:XaX Tryz.prog 9 1:=⟨by kernel_rfl⟩
instance:HEl Tryz.prog 25 9 1:=⟨by kernel_rfl⟩
instance:Xa5 Tryz.prog 25 9 (Value.string ⟨#[]⟩) 1 16:=⟨⟨by kernel_rfl,by kernel_rfl,rfl,by decide⟩⟩
instance:XaZ Tryz.prog 26 false 1:=⟨by kernel_rfl⟩
instance:XaX Tryz.prog 26 1:=⟨by kernel_rfl⟩
instance:HEl Tryz.prog 26 41 8:=⟨by kernel_rfl⟩
instance:Xa5 Tryz.prog 26 41 (Value.agg #[Value.int IntKind.i64 0,Value.string ⟨#[]⟩,Value.bool false,Value.int IntKind.i64 0,Value.slice none 0 0,Value.int IntKind.u64 0,Value.int IntKind.i64 0,Value.int IntKind.i64 0]) 8 88:=⟨⟨by kernel_rfl,by kernel_rfl,rfl,by decide⟩⟩
instance:Xbu Tryz.prog 26 (Value.slice none 0 0):=⟨by kernel_rfl⟩
instance:XaZ Tryz.prog 27 false 1:=⟨by kernel_rfl⟩
instance:XaX Tryz.prog 27 1:=⟨by kernel_rfl⟩
instance:Xbu Tryz.prog 27 (Value.int IntKind.i64 0):=⟨by kernel_rfl⟩
instance:XaZ Tryz.prog 38 false 1:=⟨by kernel_rfl⟩
instance:XaX Tryz.prog 38 1:=⟨by kernel_rfl⟩
instance:XaZ Tryz.prog 39 false 1:=⟨by kernel_rfl⟩
instance:XaX Tryz.prog 39 1:=⟨by kernel_rfl⟩
instance:HEl Tryz.prog 39 5 1:=⟨by kernel_rfl⟩
instance:Xa5 Tryz.prog 39 5 (Value.int IntKind.u8 0) 1 1:=⟨⟨by kernel_rfl,by kernel_rfl,rfl,by decide⟩⟩
instance:XaZ Tryz.prog 41 true 8:=⟨by kernel_rfl⟩
instance:XaX Tryz.prog 41 8:=⟨by kernel_rfl⟩
instance:HPl Tryz.prog 41 [(0,1),(1,1),(2,1),(3,1),(4,1),(5,1),(6,1),(7,1)] [Value.int IntKind.i64 0,Value.string ⟨#[]⟩,Value.bool false,Value.int IntKind.i64 0,Value.slice none 0 0,Value.int IntKind.u64 0,Value.int IntKind.i64 0,Value.int IntKind.i64 0]:=⟨by kernel_rfl⟩
instance:Xbu Tryz.prog 41 (Value.agg #[Value.int IntKind.i64 0,Value.string ⟨#[]⟩,Value.bool false,Value.int IntKind.i64 0,Value.slice none 0 0,Value.int IntKind.u64 0,Value.int IntKind.i64 0,Value.int IntKind.i64 0]):=⟨by kernel_rfl⟩
instance:Xbv Tryz.prog 41 0 0:=⟨by kernel_rfl⟩
instance:Xbv Tryz.prog 41 1 1:=⟨by kernel_rfl⟩
instance:Xbv Tryz.prog 41 2 2:=⟨by kernel_rfl⟩
instance:Xbv Tryz.prog 41 3 3:=⟨by kernel_rfl⟩
instance:Xbv Tryz.prog 41 4 4:=⟨by kernel_rfl⟩
instance:Xbv Tryz.prog 41 5 5:=⟨by kernel_rfl⟩
instance:Xbv Tryz.prog 41 6 6:=⟨by kernel_rfl⟩
instance:Xbv Tryz.prog 41 7 7:=⟨by kernel_rfl⟩
instance:XaZ Tryz.prog 62 false 1:=⟨by kernel_rfl⟩
instance:HEl Tryz.prog 62 111 4:=⟨by kernel_rfl⟩
instance:Xa5 Tryz.prog 62 111 (Value.agg #[Value.int IntKind.i64 0,Value.string ⟨#[]⟩,Value.int IntKind.i64 0,Value.int IntKind.i64 0]) 4 40:=⟨⟨by kernel_rfl,by kernel_rfl,rfl,by decide⟩⟩
instance:XaZ Tryz.prog 64 true 3:=⟨by kernel_rfl⟩
instance:XaX Tryz.prog 64 3:=⟨by kernel_rfl⟩
instance:HPl Tryz.prog 64 [(0,1),(1,1),(2,1)] [Value.int IntKind.i64 0,Value.int IntKind.i64 0,Value.int IntKind.i64 0]:=⟨by kernel_rfl⟩
instance:Xbu Tryz.prog 64 (Value.agg #[Value.int IntKind.i64 0,Value.int IntKind.i64 0,Value.int IntKind.i64 0]):=⟨by kernel_rfl⟩
instance:Xbv Tryz.prog 64 0 0:=⟨by kernel_rfl⟩
instance:Xbv Tryz.prog 64 1 1:=⟨by kernel_rfl⟩
instance:Xbv Tryz.prog 64 2 2:=⟨by kernel_rfl⟩
instance:Xbu Tryz.prog 74 (Value.agg #[Value.pointer none,Value.slice none 0 0]):=⟨by kernel_rfl⟩
instance:Xbv Tryz.prog 74 1 1:=⟨by kernel_rfl⟩
instance:XaZ Tryz.prog 76 true 3:=⟨by kernel_rfl⟩
instance:XaX Tryz.prog 76 3:=⟨by kernel_rfl⟩
instance:HPl Tryz.prog 76 [(0,1),(1,1),(2,1)] [Value.string ⟨#[]⟩,Value.int IntKind.i64 0,Value.string ⟨#[]⟩]:=⟨by kernel_rfl⟩
instance:Xbu Tryz.prog 76 (Value.agg #[Value.string ⟨#[]⟩,Value.int IntKind.i64 0,Value.string ⟨#[]⟩]):=⟨by kernel_rfl⟩
instance:Xbv Tryz.prog 76 0 0:=⟨by kernel_rfl⟩
instance:Xbv Tryz.prog 76 1 1:=⟨by kernel_rfl⟩
instance:Xbv Tryz.prog 76 2 2:=⟨by kernel_rfl⟩
instance:XaZ Tryz.prog 103 false 1:=⟨by kernel_rfl⟩
instance:Xbu Tryz.prog 103 (Value.int IntKind.i64 0):=⟨by kernel_rfl⟩
instance:XaZ Tryz.prog 106 false 1:=⟨by kernel_rfl⟩
instance:Xbu Tryz.prog 106 (Value.pointer none):=⟨by kernel_rfl⟩
instance:HPl Tryz.prog 109 [(0,1),(1,1),(2,1)] [Value.int IntKind.i64 0,Value.int IntKind.i64 0,Value.nilIface]:=⟨by kernel_rfl⟩
instance:Xbv Tryz.prog 109 0 0:=⟨by kernel_rfl⟩
instance:Xbv Tryz.prog 109 1 1:=⟨by kernel_rfl⟩
instance:XaZ Tryz.prog 111 true 4:=⟨by kernel_rfl⟩
instance:HPl Tryz.prog 111 [(0,1),(1,1),(2,1),(3,1)] [Value.int IntKind.i64 0,Value.string ⟨#[]⟩,Value.int IntKind.i64 0,Value.int IntKind.i64 0]:=⟨by kernel_rfl⟩
instance:Xbv Tryz.prog 111 0 0:=⟨by kernel_rfl⟩
instance:Xbv Tryz.prog 111 1 1:=⟨by kernel_rfl⟩
instance:HPl Tryz.prog 149 [(0,1),(1,1),(2,1),(3,1)] [Value.string ⟨#[]⟩,Value.int IntKind.i64 0,Value.int IntKind.i64 0,Value.int IntKind.i64 0]:=⟨by kernel_rfl⟩
instance:Xbv Tryz.prog 149 0 0:=⟨by kernel_rfl⟩
instance:Xbv Tryz.prog 149 1 1:=⟨by kernel_rfl⟩
instance:Xbv Tryz.prog 149 2 2:=⟨by kernel_rfl⟩
instance:Xbv Tryz.prog 149 3 3:=⟨by kernel_rfl⟩
theorem mixed:Tryz.prog.follows .mixedOrders=true:=by kernel_rfl
def XbS (b:UInt8):Bool:=decide ((65≤b.toNat∧b.toNat≤90)∨(97≤b.toNat∧b.toNat≤122)∨b.toNat=95)
def Xa0 (b:UInt8):Bool:=decide (48≤b.toNat∧b.toNat≤57)
def Xfm (b:UInt8):Option Nat:=
 if 48≤b.toNat∧b.toNat≤57 then some (b.toNat - 48)
 else if 97≤b.toNat∧b.toNat≤102 then some (b.toNat - 87)
 else if 65≤b.toNat∧b.toNat≤70 then some (b.toNat - 55) else none
theorem Xeg {b:UInt8} {n:Nat} (h:Xfm b=some n):n < 16:=by
 unfold Xfm at h
 split at h
 ·cases h;omega
 ·split at h
  ·cases h;omega
  ·split at h
   ·cases h;omega
   ·cases h
def XdA:List UInt8→Option (UInt8 × Nat)
 | []=>none
 | d :: r=>
   if d.toNat=34∨d.toNat=92 then some (d,1) else if d.toNat=110 then some (10,1) else if d.toNat=116 then some (9,1)
   else if d.toNat=120 then match r with
    | h :: l :: _=>match Xfm h,Xfm l with
      | some a,some b=>some (UInt8.ofNat (16*a+b),3)
      | _,_=>none
    | _=>none
   else none
theorem XeZ (d:UInt8) (r:List UInt8) (h:d.toNat=34∨d.toNat=92):XdA (d :: r)=some (d,1):=by simp only [XdA,if_pos h]
theorem XkA (d:UInt8) (r:List UInt8) (h:d.toNat=110):XdA (d :: r)=some (10,1):=by simp only [XdA];rw [if_neg (by omega),if_pos h]
theorem XkC (d:UInt8) (r:List UInt8) (h:d.toNat=116):XdA (d :: r)=some (9,1):=by simp only [XdA];rw [if_neg (by omega),if_neg (by omega),if_pos h]
theorem Xe0 (d a b:UInt8) (r:List UInt8) (h:d.toNat=120):XdA (d :: a :: b :: r)=(Xfm a).bind fun x=>(Xfm b).map fun y=>(UInt8.ofNat (16*x+y),3):=by
 simp only [XdA];rw [if_neg (by omega),if_neg (by omega),if_neg (by omega),if_pos h]
 cases Xfm a<;>cases Xfm b<;>rfl
theorem XkE (d a:UInt8) (h:d.toNat=120):XdA [d,a]=none:=by
 simp only [XdA];rw [if_neg (by omega),if_neg (by omega),if_neg (by omega),if_pos h]
theorem XkD (d:UInt8) (h:d.toNat=120):XdA [d]=none:=by
 simp only [XdA];rw [if_neg (by omega),if_neg (by omega),if_neg (by omega),if_pos h]
theorem XkB (d:UInt8) (r:List UInt8) (h:¬(d.toNat=34∨d.toNat=92∨d.toNat=110∨d.toNat=116∨d.toNat=120)):XdA (d :: r)=none:=by
 simp only [XdA];rw [if_neg (by omega),if_neg (by omega),if_neg (by omega),if_neg (by omega)]
def part:List UInt8→Option (UInt8 × Nat)
 | []=>none
 | c :: r=>if c.toNat < 32∨c.toNat=34 then none else if c.toNat≠92 then some (c,1) else (XdA r).map fun x=>(x.1,x.2+1)
theorem XbM (c:UInt8) (r:List UInt8):part (c :: r)=if c.toNat < 32∨c.toNat=34 then none else if c.toNat≠92 then some (c,1) else (XdA r).map fun x=>(x.1,x.2+1):=rfl
theorem Xky {l:List UInt8} {b:UInt8} {n:Nat} (h:XdA l=some (b,n)):1≤n∧n≤3∧n≤l.length:=by
 unfold XdA at h
 split at h
 ·cases h
 ·split at h
  ·cases h;simp
  ·split at h
   ·cases h;simp
   ·split at h
    ·cases h;simp
    ·split at h
     ·split at h
      ·split at h
       ·cases h;simp
       ·cases h
      ·cases h
     ·cases h
theorem Xgf {l:List UInt8} {b:UInt8} {n:Nat} (h:part l=some (b,n)):1≤n∧n≤4∧n≤l.length:=by
 unfold part at h
 split at h
 ·cases h
 ·split at h
  ·cases h
  ·split at h
   ·cases h;simp
   ·cases he:XdA _ with
    | none=>rw [he] at h;cases h
    | some x=>rw [he] at h;cases h;have:=Xky he;simp;omega
def quo (l:List UInt8):Option (List UInt8 × Nat):=
 match l with
 | []=>none
 | c :: r=>
   if c.toNat=34 then some ([],1) else
   match part (c :: r) with
   | none=>none
   | some x=>(quo ((c :: r).drop (max x.2 1))).map fun y=>(x.1 :: y.1,x.2+y.2)
termination_by l.length
decreasing_by simp;omega
def sla (l:List UInt8):Option (List UInt8 × Nat):=
 match l with
 | []=>none
 | c :: r=>
   if c.toNat=47 then some ([],1) else if c.toNat < 32 then none
   else if c.toNat=92 then
    match r with
    | []=>none
    | d :: r=>if d.toNat < 32 then none else if d.toNat=47 then (sla r).map fun x=>(d :: x.1,2+x.2) else (sla r).map fun x=>(c :: d :: x.1,2+x.2)
   else (sla r).map fun x=>(c :: x.1,1+x.2)
def spn (p:UInt8→Bool) (l:List UInt8):Nat:=(l.takeWhile p).length
def Xb6 (b:UInt8):Bool:=Xa0 b || (XbS b || decide (b.toNat=45))
def one:List UInt8→Except Int (Int × List UInt8 × Nat)
 | []=>.error 50
 | c :: r=>
   if XbS c then .ok (1,(c :: r).take (spn Xb6 (c :: r)),spn Xb6 (c :: r))
   else if Xa0 c then
    if 18 < spn Xa0 (c :: r)∨1 < spn Xa0 (c :: r)∧c.toNat=48 then .error 53 else .ok (2,(c :: r).take (spn Xa0 (c :: r)),spn Xa0 (c :: r))
   else if c.toNat=34 then match quo r with
    | none=>.error 51
    | some x=>.ok (3,x.1,x.2+1)
   else if c.toNat=47 then match sla r with
    | none=>.error 52
    | some x=>.ok (4,x.1,x.2+1)
   else if c.toNat=123∨c.toNat=125∨c.toNat=44∨c.toNat=61 then .ok (5,[c],1)
   else .error 50
def cmt:List UInt8→Nat
 | []=>0
 | c :: r=>if c.toNat=10 then 0 else cmt r+1
def skp:List UInt8→Nat
 | []=>0
 | c :: r=>
   if c.toNat=32∨c.toNat=9∨c.toNat=10∨c.toNat=13 then skp r+1
   else if c.toNat=35 then cmt (c :: r)+skp ((c :: r).drop (max (cmt (c :: r)) 1))
   else 0
termination_by l=>l.length
decreasing_by
 ·simp
 ·simp;omega
theorem XmU (l:List UInt8):cmt l≤l.length:=by
 induction l with
 | nil=>simp [cmt]
 | cons c r ih=>simp only [cmt];split<;>simp;omega
theorem Xec (c:UInt8) (r:List UInt8) (h:c.toNat≠10):cmt (c :: r)=cmt r+1:=by simp only [cmt,if_neg h]
theorem Xkl (c:UInt8) (r:List UInt8) (h:c.toNat=10):cmt (c :: r)=0:=by simp only [cmt,if_pos h]
theorem Xgk:skp []=0:=by rw [skp]
theorem Xd2 (c:UInt8) (r:List UInt8) (h:c.toNat=32∨c.toNat=9∨c.toNat=10∨c.toNat=13):skp (c :: r)=skp r+1:=by rw [skp,if_pos h]
theorem Xic (c:UInt8) (r:List UInt8) (h:c.toNat=35):skp (c :: r)=cmt (c :: r)+skp ((c :: r).drop (cmt (c :: r))):=by
 rw [skp,if_neg (by omega),if_pos h,show max (cmt (c :: r)) 1=cmt (c :: r) from by rw [Xec _ _ (by omega)];omega]
theorem XiO (c:UInt8) (r:List UInt8) (h:¬(c.toNat=32∨c.toNat=9∨c.toNat=10∨c.toNat=13)) (h2:c.toNat≠35):skp (c :: r)=0:=by rw [skp,if_neg h,if_neg h2]
def plc (p:Nat × Nat):List UInt8→Nat × Nat
 | []=>p
 | c :: r=>plc (if c.toNat=10 then (p.1+1,1) else (p.1,p.2+1)) r
structure Tok where
 kind:Int
 text:List UInt8
 line:Nat
 col:Nat
structure Flt where
 code:Int
 line:Nat
 col:Nat
def Xb1 (p:Nat × Nat) (n:Nat) (l:List UInt8):Except Flt (List Tok):=
 match h:l.drop (skp l) with
 | []=>.ok [⟨6,[],(plc p l).1,(plc p l).2⟩]
 | c :: r=>
   match one (c :: r) with
   | .error e=>.error ⟨e,(plc p (l.take (skp l))).1,(plc p (l.take (skp l))).2⟩
   | .ok x=>if 2000≤n then .error ⟨1,(plc p (l.take (skp l))).1,(plc p (l.take (skp l))).2⟩
     else (Xb1 (plc p (l.take (skp l+x.2.2))) (n+1) ((c :: r).drop (max x.2.2 1))).map (⟨x.1,x.2.1,(plc p (l.take (skp l))).1,(plc p (l.take (skp l))).2⟩ :: ·)
termination_by l.length
decreasing_by
 have:=congrArg List.length h
 simp at *;omega
def lex (l:List UInt8):Except Flt (List Tok):=if 8192 < l.length then .error ⟨1,0,0⟩ else Xb1 (1,1) 0 l
theorem elB:XcF Tryz.prog 39 5 (.int .u8 0) 1 1:=⟨Tryz.underlying39,by kernel_rfl,rfl,by decide⟩
theorem XiL {a b:Bool} (h:a=b):Ending.returned (.bool a)=.returned (.bool b):=by rw [h]
theorem Xpf {a b:Int} (h:a=b) (c:Bool):Ending.returned (.tuple #[.int .u8 a,.bool c])=.returned (.tuple #[.int .u8 b,.bool c]):=by rw [h]
theorem Xbe (b:UInt8) (w:World):Calls Tryz.prog 91 #[.int .u8 b.toNat] w fun e w'=>e=.returned (.bool (XbS b))∧w'=w:=by
 go_enter Tryz.func91,Tryz.ntmps91
 go_wp2_with fail
 all_goals go_ret
 all_goals unfold XbS
 all_goals exact ⟨XiL (by rw [Bool.eq_iff_iff];simp only [Bool.or_eq_true,Bool.and_eq_true,decide_eq_true_eq,beq_iff_eq,bne_iff_ne,Bool.not_eq_true,Bool.not_eq_true',decide_eq_false_iff_not,reduceCtorEq,iff_true,true_iff,iff_false,false_iff,Bool.false_eq_true,ne_eq]<;>omega),rfl⟩
theorem Xbd (b:UInt8) (w:World):Calls Tryz.prog 93 #[.int .u8 b.toNat] w fun e w'=>e=.returned (.bool (Xa0 b))∧w'=w:=by
 go_enter Tryz.func93,Tryz.ntmps93
 go_wp2_with fail
 all_goals go_ret
 all_goals unfold Xa0
 all_goals exact ⟨XiL (by rw [Bool.eq_iff_iff];simp only [Bool.or_eq_true,Bool.and_eq_true,decide_eq_true_eq,beq_iff_eq,bne_iff_ne,Bool.not_eq_true,Bool.not_eq_true',decide_eq_false_iff_not,reduceCtorEq,iff_true,true_iff,iff_false,false_iff,Bool.false_eq_true,ne_eq]<;>omega),rfl⟩
def Xlw (b:UInt8):Value:=match Xfm b with|none=>.tuple #[.int .u8 0,.bool false]|some n=>.tuple #[.int .u8 (n:Nat),.bool true]
theorem Xcy (b:UInt8) (w:World):Calls Tryz.prog 164 #[.int .u8 b.toNat] w fun e w'=>e=.returned (Xlw b)∧w'=w:=by
 have hb:=b.toNat_lt
 go_enter Tryz.func164,Tryz.ntmps164
 go_wp2_with fail
 refine Calls.mono (Xbd b _) ?_
 rintro e w1 ⟨rfl,rfl⟩
 cases hd:Xa0 b
 all_goals
  go_wp2_with fail
  all_goals go_ret2
  all_goals
   simp only [Xa0,decide_eq_true_eq,decide_eq_false_iff_not] at hd
   refine ⟨?_,rfl⟩
   unfold Xlw Xfm
   repeat rw [if_neg (by omega)]
   first|rfl|(rw [if_pos (by omega)];exact Xpf (by omega) _)|fail
def Xgg (l:List UInt8):Value:=match part l with|none=>.tuple #[.int .u8 0,.int .i64 0]|some x=>.tuple #[.int .u8 x.1.toNat,.int .i64 (x.2:Nat)]
def Xft (l:List UInt8):Value:=match XdA l with|none=>.tuple #[.int .u8 0,.int .i64 0]|some x=>.tuple #[.int .u8 x.1.toNat,.int .i64 ((x.2:Int)+1)]
theorem Xg6 (l:List UInt8) (w:World) (hl:l.length≤1000000):Calls Tryz.prog 132 #[.string (bs l)] w fun e w'=>e=.returned (Xgg l)∧w'=w:=by
 cases l with
 | nil=>
   go_enter Tryz.func132,Tryz.ntmps132
   go_wp2_with fail
   all_goals go_ret2
   all_goals exact ⟨rfl,rfl⟩
 | cons c r=>
   have hb:=c.toNat_lt
   simp only [Xqy] at hl
   by_cases h1:c.toNat < 32∨c.toNat=34
   ·have hp:Xgg (c :: r)=.tuple #[.int .u8 0,.int .i64 0]:=by unfold Xgg;rw [XbM,if_pos h1]
    rw [hp]
    go_enter Tryz.func132,Tryz.ntmps132
    go_wp2_with fail
    all_goals go_ret2
    all_goals first|exact ⟨rfl,rfl⟩|(exfalso;(try simp only [beq_iff_eq,bne_iff_ne,XqM,ne_eq,Bool.not_eq_true,decide_eq_true_eq,decide_eq_false_iff_not,Bool.or_eq_true,Bool.or_eq_false_iff,Bool.and_eq_true,Bool.and_eq_false_iff,bne_eq_false_iff_eq,Bool.not_eq_true',Bool.not_eq_false'] at *);omega)|fail
   ·by_cases h2:c.toNat=92
    ·have he:Xgg (c :: r)=Xft r:=by
      unfold Xgg Xft;rw [XbM,if_neg h1,if_neg (by simpa using h2)];cases XdA r<;>rfl
     rw [he]
     cases r with
     | nil=>
       have hv:Xft []=.tuple #[.int .u8 0,.int .i64 0]:=rfl
       rw [hv]
       go_enter Tryz.func132,Tryz.ntmps132
       go_wp2_with fail
       all_goals go_ret2
       all_goals first|exact ⟨rfl,rfl⟩|fail
     | cons d r=>
       simp only [Xqy] at hl
       have hd:=d.toNat_lt
       by_cases d1:d.toNat=34∨d.toNat=92
       ·have hv:Xft (d :: r)=.tuple #[.int .u8 d.toNat,.int .i64 2]:=by unfold Xft;rw [XeZ d r d1];rfl
        rw [hv]
        go_enter Tryz.func132,Tryz.ntmps132
        go_wp2_with fail
        all_goals go_ret2
        all_goals first|exact ⟨rfl,rfl⟩|fail
       by_cases d2:d.toNat=110
       ·have hv:Xft (d :: r)=.tuple #[.int .u8 10,.int .i64 2]:=by unfold Xft;rw [XkA d r d2];rfl
        rw [hv]
        go_enter Tryz.func132,Tryz.ntmps132
        go_wp2_with fail
        all_goals go_ret2
        all_goals first|exact ⟨rfl,rfl⟩|fail
       by_cases d3:d.toNat=116
       ·have hv:Xft (d :: r)=.tuple #[.int .u8 9,.int .i64 2]:=by unfold Xft;rw [XkC d r d3];rfl
        rw [hv]
        go_enter Tryz.func132,Tryz.ntmps132
        go_wp2_with fail
        all_goals go_ret2
        all_goals first|exact ⟨rfl,rfl⟩|fail
       by_cases d4:d.toNat=120
       ·rcases r with _|⟨x,_|⟨y,r⟩⟩
        ·have hv:Xft [d]=.tuple #[.int .u8 0,.int .i64 0]:=by unfold Xft;rw [XkD d d4]
         rw [hv]
         go_enter Tryz.func132,Tryz.ntmps132
         go_wp2_with fail
         all_goals go_ret2
         all_goals first|exact ⟨rfl,rfl⟩|fail
        ·have hv:Xft [d,x]=.tuple #[.int .u8 0,.int .i64 0]:=by unfold Xft;rw [XkE d x d4]
         rw [hv]
         go_enter Tryz.func132,Tryz.ntmps132
         go_wp2_with fail
         all_goals go_ret2
         all_goals first|exact ⟨rfl,rfl⟩|fail
        ·simp only [Xqy] at hl
         cases hx:Xfm x with
         | none=>
           have hv:Xft (d :: x :: y :: r)=.tuple #[.int .u8 0,.int .i64 0]:=by unfold Xft;rw [Xe0 d x y r d4,hx];rfl
           rw [hv]
           cases hy:Xfm y with
           | none=>
             go_enter Tryz.func132,Tryz.ntmps132
             go_wp2_with fail
             refine Calls.mono (Xcy x _) ?_
             rintro e w1 ⟨rfl,rfl⟩
             unfold Xlw
             rw [hx]
             go_wp2_with fail
             refine Calls.mono (Xcy y _) ?_
             rintro e w2 ⟨rfl,rfl⟩
             unfold Xlw
             rw [hy]
             go_wp2_with fail
             all_goals go_ret2
             all_goals first|exact ⟨rfl,rfl⟩|fail
           | some n=>
             go_enter Tryz.func132,Tryz.ntmps132
             go_wp2_with fail
             refine Calls.mono (Xcy x _) ?_
             rintro e w1 ⟨rfl,rfl⟩
             unfold Xlw
             rw [hx]
             go_wp2_with fail
             refine Calls.mono (Xcy y _) ?_
             rintro e w2 ⟨rfl,rfl⟩
             unfold Xlw
             rw [hy]
             go_wp2_with fail
             all_goals go_ret2
             all_goals first|exact ⟨rfl,rfl⟩|fail
         | some m=>
           cases hy:Xfm y with
           | none=>
             have hv:Xft (d :: x :: y :: r)=.tuple #[.int .u8 0,.int .i64 0]:=by unfold Xft;rw [Xe0 d x y r d4,hx,hy];rfl
             rw [hv]
             go_enter Tryz.func132,Tryz.ntmps132
             go_wp2_with fail
             refine Calls.mono (Xcy x _) ?_
             rintro e w1 ⟨rfl,rfl⟩
             unfold Xlw
             rw [hx]
             go_wp2_with fail
             refine Calls.mono (Xcy y _) ?_
             rintro e w2 ⟨rfl,rfl⟩
             unfold Xlw
             rw [hy]
             go_wp2_with fail
             all_goals go_ret2
             all_goals first|exact ⟨rfl,rfl⟩|fail
           | some n=>
             have hv:Xft (d :: x :: y :: r)=.tuple #[.int .u8 ((16*m+n:Nat):Int),.int .i64 4]:=by
              have hm:=Xeg hx
              have hn:=Xeg hy
              unfold Xft;rw [Xe0 d x y r d4,hx,hy];simp;omega
             rw [hv]
             have hm:=Xeg hx
             have hn:=Xeg hy
             have x1:IntKind.u8.wrap (16*(m:Int))=16*m:=IntWalk.u8_in _ (by omega)
             have x2:IntKind.u8.wrap (16*(m:Int)+n)=16*m+n:=IntWalk.u8_in _ (by omega)
             go_enter Tryz.func132,Tryz.ntmps132
             go_wp2_with fail
             refine Calls.mono (Xcy x _) ?_
             rintro e w1 ⟨rfl,rfl⟩
             unfold Xlw
             rw [hx]
             go_wp2_with fail
             refine Calls.mono (Xcy y _) ?_
             rintro e w2 ⟨rfl,rfl⟩
             unfold Xlw
             rw [hy]
             go_wp2_with fail
             all_goals go_ret2
             all_goals first|exact ⟨rfl,rfl⟩|fail
       ·have hv:Xft (d :: r)=.tuple #[.int .u8 0,.int .i64 0]:=by unfold Xft;rw [XkB d r (by omega)]
        rw [hv]
        go_enter Tryz.func132,Tryz.ntmps132
        go_wp2_with fail
        all_goals go_ret2
        all_goals first|exact ⟨rfl,rfl⟩|fail
    ·have hp:Xgg (c :: r)=.tuple #[.int .u8 c.toNat,.int .i64 1]:=by unfold Xgg;rw [XbM,if_neg h1,if_pos h2];rfl
     rw [hp]
     go_enter Tryz.func132,Tryz.ntmps132
     go_wp2_with fail
     all_goals go_ret2
     all_goals first|exact ⟨rfl,rfl⟩|(exfalso;(try simp only [beq_iff_eq,bne_iff_ne,XqM,ne_eq,Bool.not_eq_true,decide_eq_true_eq,decide_eq_false_iff_not,Bool.or_eq_true,Bool.or_eq_false_iff,Bool.and_eq_true,Bool.and_eq_false_iff,bne_eq_false_iff_eq,Bool.not_eq_true',Bool.not_eq_false'] at *);omega)|fail
theorem XmI {v n:Int} (hn:0 < n) (h:v.tmod n < 0):v.tmod n+n=v % n:=by
 rw [Int.tmod_eq_emod] at *
 have:=Int.emod_nonneg v (show n≠0 by omega)
 split at h<;>rename_i hc<;>simp [hc] at *
 ·omega
 ·omega
theorem XmJ {v n:Int} (hn:0 < n) (h:0≤v.tmod n):v.tmod n=v % n:=by
 rw [Int.tmod_eq_emod] at *
 have:=Int.emod_lt_of_pos v hn
 split<;>rename_i hc<;>simp [hc] at *
 omega
theorem XdE {a b:Int} (h:a=b):Ending.returned (.int .i64 a)=.returned (.int .i64 b):=by rw [h]
theorem Xoc (v n:Int) (w:World) (hn:1≤n) (hn2:n≤9223372036854775807) (hv : -9223372036854775808≤v) (hv2:v≤9223372036854775807) :
  Calls Tryz.prog 16 #[.int .i64 v,.int .i64 n] w fun e w'=>e=.returned (.int .i64 (v % n))∧w=w':=by
 have h0:¬n=0:=by omega
 have h1:v.tmod n < n:=Int.tmod_lt_of_pos v (by omega)
 have h2 : -n < v.tmod n:=by
  have:=Int.lt_tmod_of_pos v (show 0 < n by omega);omega
 go_enter Tryz.func16,Tryz.ntmps16
 go_wp2
 all_goals go_ret
 ·exact ⟨XdE (XmI (by omega) (by assumption)),rfl⟩
 ·exact ⟨XdE (XmJ (by omega) (by assumption)),rfl⟩
theorem Xoi (p:Nat × Nat) (a b:List UInt8):plc p (a++b)=plc (plc p a) b:=by
 induction a generalizing p with
 | nil=>rfl
 | cons c r ih=>exact ih _
theorem Xmt (p:Nat × Nat) (l:List UInt8) (k:Nat) (h:k < l.length):plc p (l.take (k+1))=if l[k].toNat=10 then ((plc p (l.take k)).1+1,1) else ((plc p (l.take k)).1,(plc p (l.take k)).2+1):=by
 rw [List.take_succ_eq_append_getElem h,Xoi];rfl
theorem Xpe (p:Nat × Nat) (l:List UInt8):(plc p l).1≤p.1+l.length∧(plc p l).2≤p.2+l.length+1:=by
 induction l generalizing p with
 | nil=>simp [plc]
 | cons c r ih=>
   have:=ih (if c.toNat=10 then (p.1+1,1) else (p.1,p.2+1))
   simp only [plc,Xqy]
   split at this<;>rename_i hc<;>simp only [hc,if_true,if_false]<;>simp only at this<;>omega
theorem Xjy (l:List UInt8) (n:Nat) (w:World) (hl:l.length≤1000000) (hn:n≤l.length):Calls Tryz.prog 55 #[.string (bs l),.int .i64 n] w fun e w'=>
  e=.returned (.tuple #[.int .i64 ((plc (1,1) (l.take n)).1:Nat),.int .i64 ((plc (1,1) (l.take n)).2:Nat)])∧w'=w:=by
 go_enter Tryz.func55,Tryz.ntmps55
 go_wp2_with fail
 go_loop [6,7,8] (fun a b i=>∃k:Nat,k≤n∧i=.int .i64 k∧a=.int .i64 ((plc (1,1) (l.take k)).1:Nat)∧b=.int .i64 ((plc (1,1) (l.take k)).2:Nat)) (fun _ _ i=>n - (intOf i).toNat)
 case atStart=>exact ⟨0,by omega,rfl,rfl,rfl⟩
 case round=>
  obtain ⟨k,hk,rfl,rfl,rfl⟩:=hrel
  have hp:=Xpe (1,1) (l.take k)
  rw [List.length_take] at hp
  simp only at hp
  by_cases hlt:k < n
  ·have hs:=Xmt (1,1) l k (by omega)
   by_cases h10:l[k].toNat=10
   ·rw [if_pos h10] at hs
    have hs1:=Lib.hid (congrArg Prod.fst hs)
    have hs2:=Lib.hid (congrArg Prod.snd hs)
    clear hs
    go_wp2_with fail
    all_goals go_round
    case rel=>exact ⟨k+1,by omega,by go_num,by rw [hs1.out];go_num,by rw [hs2.out];rfl⟩
    case measure=>simp [intOf];omega
   ·rw [if_neg h10] at hs
    have hs1:=Lib.hid (congrArg Prod.fst hs)
    have hs2:=Lib.hid (congrArg Prod.snd hs)
    clear hs
    have hb:((l[k].toNat:Int) == 10)=false:=by rw [XqM];omega
    go_wp2_with fail
    all_goals go_round
    case rel=>exact ⟨k+1,by omega,by go_num,by rw [hs1.out],by rw [hs2.out];go_num⟩
    case measure=>simp [intOf];omega
  ·have:k=n:=by omega
   subst this
   go_wp2_with fail
   go_ret2
   exact ⟨rfl,rfl⟩
theorem Xlg (l:List UInt8) (w:World) (hl:l.length≤1000000):Calls Tryz.prog 54 #[.string (bs l)] w fun e w'=>e=.returned (.int .i64 (skp l:Nat))∧w'=w:=by
 go_enter Tryz.func54,Tryz.ntmps54
 go_wp2_with fail
 go_loop [3] (fun i=>∃k:Nat,k≤l.length∧i=.int .i64 k∧Hid (skp l=k+skp (l.drop k))) (fun i=>l.length - (intOf i).toNat)
 case atStart=>exact ⟨0,by omega,rfl,Lib.hid (by simp)⟩
 case round=>
  obtain ⟨k,hk,rfl,hS⟩:=hrel
  by_cases hlt:k < l.length
  ·have hd:=Lib.hid (Xch hlt)
   by_cases h1:l[k].toNat=32∨l[k].toNat=9∨l[k].toNat=10∨l[k].toNat=13
   ·have hS2:Hid (skp l=(k+1:Nat)+skp (l.drop (k+1))):=Lib.hid (by rw [hS.out,hd.out,Xd2 _ _ h1];omega)
    clear hS hd
    go_wp2_with fail
    all_goals first|(go_round;(case rel=>exact ⟨k+1,by omega,by go_num,hS2⟩);(case measure=>simp [intOf];omega))|(exfalso;(try simp only [beq_iff_eq,bne_iff_ne,XqM,ne_eq,Bool.not_eq_true,decide_eq_true_eq,decide_eq_false_iff_not,Bool.or_eq_true,Bool.or_eq_false_iff,Bool.and_eq_true,Bool.and_eq_false_iff,bne_eq_false_iff_eq,Bool.not_eq_true',Bool.not_eq_false'] at *);omega)|fail
   ·by_cases h2:l[k].toNat=35
    ·have hS2:Hid (skp l=k+cmt (l.drop k)+skp (l.drop (k+cmt (l.drop k)))):=Lib.hid (by
      rw [hS.out,hd.out,Xic _ _ h2,←hd.out,List.drop_drop];omega)
     clear hS hd
     have b1:((l[k].toNat:Int) == 32)=false:=by rw [XqM];omega
     have b2:((l[k].toNat:Int) == 9)=false:=by rw [XqM];omega
     have b3:((l[k].toNat:Int) == 10)=false:=by rw [XqM];omega
     have b4:((l[k].toNat:Int) == 13)=false:=by rw [XqM];omega
     go_wp2_with fail
     go_loop [3] (fun i=>∃j:Nat,k≤j∧j≤l.length∧i=.int .i64 j∧Hid (skp l=j+cmt (l.drop j)+skp (l.drop (j+cmt (l.drop j))))∧(j=k→l[k].toNat=35)) (fun i=>l.length - (intOf i).toNat)
     case atStart=>exact ⟨k,by omega,hk,rfl,hS2,fun _=>h2⟩
     case round=>
      obtain ⟨j,hkj,hj,rfl,hJ,hj0⟩:=hrel
      by_cases hlj:j < l.length
      ·have hd:=Lib.hid (Xch hlj)
       by_cases h10:l[j].toNat=10
       ·have hne:k < j:=by
         rcases Nat.lt_or_ge k j with h|h
         ·exact h
         ·have:j=k:=by omega
          subst this;omega
        have hJ2:Hid (skp l=j+skp (l.drop j)):=Lib.hid (by
         have:=hJ.out
         rw [hd.out,Xkl _ _ h10,Nat.add_zero,hd.out] at this
         rw [this,hd.out])
        clear hS2 hJ hd
        have c1:((l[j].toNat:Int) != 10)=false:=by rw [bne_eq_false_iff_eq];omega
        go_wp2_with fail
        go_round
        case rel=>exact ⟨j,hj,rfl,hJ2⟩
        case measure=>simp [intOf];omega
       ·have hJ2:Hid (skp l=(j+1:Nat)+cmt (l.drop (j+1))+skp (l.drop ((j+1:Nat)+cmt (l.drop (j+1))))):=Lib.hid (by
         have:=hJ.out
         rw [hd.out,Xec _ _ h10] at this
         rw [this]
         have e:j+(cmt (l.drop (j+1))+1)=j+1+cmt (l.drop (j+1)):=by omega
         rw [e])
        clear hS2 hJ hd
        have c1:((l[j].toNat:Int) != 10)=true:=by rw [bne_iff_ne];omega
        go_wp2_with fail
        go_round
        case rel=>exact ⟨j+1,by omega,by omega,by go_num,hJ2,by omega⟩
        case measure=>simp [intOf];omega
      ·have hne:k < j:=by omega
       have hJ2:Hid (skp l=j+skp (l.drop j)):=Lib.hid (by
        have:=hJ.out
        rw [List.drop_eq_nil_of_le (show l.length≤j by omega)] at *
        simpa [cmt,List.drop_eq_nil_of_le (show l.length≤j by omega)] using this)
       clear hS2 hJ
       go_wp2_with fail
       go_round
       case rel=>exact ⟨j,hj,rfl,hJ2⟩
       case measure=>simp [intOf];omega
    ·have hS2:Hid (skp l=k):=Lib.hid (by rw [hS.out,hd.out,XiO _ _ h1 h2];omega)
     clear hS hd
     have b1:((l[k].toNat:Int) == 32)=false:=by rw [XqM];omega
     have b2:((l[k].toNat:Int) == 9)=false:=by rw [XqM];omega
     have b3:((l[k].toNat:Int) == 10)=false:=by rw [XqM];omega
     have b4:((l[k].toNat:Int) == 13)=false:=by rw [XqM];omega
     have b5:((l[k].toNat:Int) == 35)=false:=by rw [XqM];omega
     go_wp2_with fail
     go_ret
     exact ⟨XdE (by rw [hS2.out]),rfl⟩
  ·have hS2:Hid (skp l=k):=Lib.hid (by rw [hS.out,List.drop_eq_nil_of_le (by omega),Xgk];omega)
   clear hS
   go_wp2_with fail
   go_ret
   exact ⟨XdE (by rw [hS2.out]),rfl⟩
end Go.Proofs.YtdpobjakdplljaaGreatDoor
