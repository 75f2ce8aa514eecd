import Derived.Test.YtdpobjakdplljaaGreatDoorY12
import Derived.Test.YtdpobjakdplljaaGreatDoorY8
import Derived.Test.YtdpobjakdplljaaGreatDoorY11
import Derived.Test.YtdpobjakdplljaaGreatDoorY6
/- The reference of the lexer: one, a number. -/
set_option linter.unusedSimpArgs false
set_option linter.unusedVariables false
set_option maxRecDepth 100000
set_option maxHeartbeats 8000000
namespace Go.Proofs.YtdpobjakdplljaaGreatDoor
open Go.RowKit
theorem XqQ (c:UInt8) (r:List UInt8) (w:World) (hl:r.length≤999999) (h:Xb6 c=false) (h2:Xbi c=true):Calls Tryz.prog 56 #[.string (bs (c :: r))] w fun e w'=>e=.returned (Xf2 (one (c :: r)))∧Ext w w':=by
 have hle:=XhC Xbi (c :: r)
 rw [Xvy] at hle
 have hs:=Xjw (c :: r) false w (by simp;omega)
 rw [show wrd false=Xbi from rfl] at hs
 have hb:=c.toNat_lt
 by_cases h3:18 < spn Xbi (c :: r)∨1 < spn Xbi (c :: r)∧c.toNat=48
 ·rw [Xlq c r h h2 h3]
  generalize spn Xbi (c :: r)=n at hle hs h3 ⊢
  go_enter Tryz.func56,Tryz.ntmps56
  go_wp2_with fail
  refine Calls.mono (Xbx c _) ?_
  rintro e w1 ⟨rfl,rfl⟩
  rw [h]
  go_wp2_with fail
  refine Calls.mono (Xbw c _) ?_
  rintro e w1 ⟨rfl,rfl⟩
  rw [h2]
  go_wp2_with fail
  refine Calls.mono hs ?_
  rintro e w1 ⟨rfl,rfl⟩
  have h4:18 < n∨(n≤18∧1 < n∧c.toNat=48):=by omega
  clear h3
  rcases h4 with h4|⟨h4,h5,h6⟩
  ·go_wp2_with fail
   refine bodyPost_ret (by simp [results,Tryz.results56,go_sem];try rfl) rfl ?_
   exact ⟨by simp [Xf2,Xco],(by repeat (first|(with_reducible exact Below.refl _ _)|(with_reducible assumption)|(with_reducible refine Below.ext ?_ (by first|omega|(simp;done)|(simp;omega)) _ _)|(with_reducible refine Below.alloc ?_ (by first|omega|(simp;done)|(simp;omega)) _)|(with_reducible refine Below.setCell ?_ (by first|omega|(simp;done)|(simp;omega)) _)|(with_reducible refine Below.drew ?_)|(with_reducible refine Below.drewN ?_ _)))⟩
  ·have b1:((c.toNat:Int) == 48)=true:=by rw [beq_iff_eq];omega
   clear h6
   go_wp2_with fail
   refine bodyPost_ret (by simp [results,Tryz.results56,go_sem];try rfl) rfl ?_
   exact ⟨by simp [Xf2,Xco],(by repeat (first|(with_reducible exact Below.refl _ _)|(with_reducible assumption)|(with_reducible refine Below.ext ?_ (by first|omega|(simp;done)|(simp;omega)) _ _)|(with_reducible refine Below.alloc ?_ (by first|omega|(simp;done)|(simp;omega)) _)|(with_reducible refine Below.setCell ?_ (by first|omega|(simp;done)|(simp;omega)) _)|(with_reducible refine Below.drew ?_)|(with_reducible refine Below.drewN ?_ _)))⟩
 ·rw [XoK c r h h2 h3]
  generalize spn Xbi (c :: r)=n at hle hs h3 ⊢
  go_enter Tryz.func56,Tryz.ntmps56
  go_wp2_with fail
  refine Calls.mono (Xbx c _) ?_
  rintro e w1 ⟨rfl,rfl⟩
  rw [h]
  go_wp2_with fail
  refine Calls.mono (Xbw c _) ?_
  rintro e w1 ⟨rfl,rfl⟩
  rw [h2]
  go_wp2_with fail
  refine Calls.mono hs ?_
  rintro e w1 ⟨rfl,rfl⟩
  have h4:n≤18∧(n≤1∨c.toNat≠48):=by omega
  obtain ⟨h4,h5⟩:=h4
  clear h3
  by_cases h6:1 < n
  ·have b1:((c.toNat:Int) == 48)=false:=by rw [XvM];omega
   clear h5
   go_wp2_with fail
   go_quiet (fail)
   go_wp2_with fail
   refine bodyPost_ret (by simp [results,Tryz.results56,go_sem];try rfl) rfl ?_
   exact ⟨rfl,(by repeat (first|(with_reducible exact Below.refl _ _)|(with_reducible assumption)|(with_reducible refine Below.ext ?_ (by first|omega|(simp;done)|(simp;omega)) _ _)|(with_reducible refine Below.alloc ?_ (by first|omega|(simp;done)|(simp;omega)) _)|(with_reducible refine Below.setCell ?_ (by first|omega|(simp;done)|(simp;omega)) _)|(with_reducible refine Below.drew ?_)|(with_reducible refine Below.drewN ?_ _)))⟩
  ·clear h5
   go_wp2_with fail
   go_quiet (fail)
   go_wp2_with fail
   refine bodyPost_ret (by simp [results,Tryz.results56,go_sem];try rfl) rfl ?_
   exact ⟨rfl,(by repeat (first|(with_reducible exact Below.refl _ _)|(with_reducible assumption)|(with_reducible refine Below.ext ?_ (by first|omega|(simp;done)|(simp;omega)) _ _)|(with_reducible refine Below.alloc ?_ (by first|omega|(simp;done)|(simp;omega)) _)|(with_reducible refine Below.setCell ?_ (by first|omega|(simp;done)|(simp;omega)) _)|(with_reducible refine Below.drew ?_)|(with_reducible refine Below.drewN ?_ _)))⟩
theorem XqS (c:UInt8) (r:List UInt8) (w:World) (hl:r.length≤999999) (h:Xb6 c=false) (h2:Xbi c=false) (h3:c.toNat=34):Calls Tryz.prog 56 #[.string (bs (c :: r))] w fun e w'=>e=.returned (Xf2 (one (c :: r)))∧Ext w w':=by
 obtain ⟨V,hV0⟩:∃V,V=Xf2 (one (c :: r)):=⟨_,rfl⟩
 rw [←hV0]
 rw [XkA c r h h2 h3] at hV0
 have hV:=Lib.hid hV0
 clear hV0
 have hq:=XkM r w (by omega)
 have hle:=Lib.hid (XoV r)
 have y1:((c.toNat:Int) == 34)=true:=by first|(rw [beq_iff_eq];omega)|(rw [XvM];omega)
 have y2:((c.toNat:Int) == 47)=false:=by first|(rw [beq_iff_eq];omega)|(rw [XvM];omega)
 clear h3
 go_enter Tryz.func56,Tryz.ntmps56
 go_wp2_with fail
 refine Calls.mono (Xbx c _) ?_
 rintro e w1 ⟨rfl,rfl⟩
 rw [h]
 go_wp2_with fail
 refine Calls.mono (Xbw c _) ?_
 rintro e w1 ⟨rfl,rfl⟩
 rw [h2]
 go_wp2_with fail
 rw [show (bs (c :: r)).extract 1 (r.length+1)=bs r from Xnp (c :: r) 1]
 refine Calls.mono hq ?_
 rintro e w2 ⟨rfl,hx⟩
 unfold XmY
 cases hqq:quo r with
 | none=>
   have hQQ:=Lib.hid hqq
   clear hqq hle
   go_wp2_with fail
   refine bodyPost_ret (by simp [results,Tryz.results56,go_sem];try rfl) rfl ?_
   exact ⟨by rw [hV.out,hQQ.out];simp [Xf2,Xco],hx⟩
 | some x=>
   have hx1:=(hle.out x hqq).2.1
   have hQQ:=Lib.hid hqq
   clear hqq hle
   go_wp2_with fail
   refine bodyPost_ret (by simp [results,Tryz.results56,go_sem];try rfl) rfl ?_
   exact ⟨by rw [hV.out,hQQ.out];simp [Xf2],hx⟩
theorem XqR (c:UInt8) (r:List UInt8) (w:World) (hl:r.length≤999999) (h:Xb6 c=false) (h2:Xbi c=false) (h3:c.toNat=47):Calls Tryz.prog 56 #[.string (bs (c :: r))] w fun e w'=>e=.returned (Xf2 (one (c :: r)))∧Ext w w':=by
 obtain ⟨V,hV0⟩:∃V,V=Xf2 (one (c :: r)):=⟨_,rfl⟩
 rw [←hV0]
 rw [Xkz c r h h2 h3] at hV0
 have hV:=Lib.hid hV0
 clear hV0
 have hq:=Xjv r w (by omega)
 have hle:=Lib.hid (XjC r)
 have y1:((c.toNat:Int) == 34)=false:=by first|(rw [beq_iff_eq];omega)|(rw [XvM];omega)
 have y2:((c.toNat:Int) == 47)=true:=by first|(rw [beq_iff_eq];omega)|(rw [XvM];omega)
 clear h3
 go_enter Tryz.func56,Tryz.ntmps56
 go_wp2_with fail
 refine Calls.mono (Xbx c _) ?_
 rintro e w1 ⟨rfl,rfl⟩
 rw [h]
 go_wp2_with fail
 refine Calls.mono (Xbw c _) ?_
 rintro e w1 ⟨rfl,rfl⟩
 rw [h2]
 go_wp2_with fail
 rw [show (bs (c :: r)).extract 1 (r.length+1)=bs r from Xnp (c :: r) 1]
 refine Calls.mono hq ?_
 rintro e w2 ⟨rfl,hx⟩
 unfold XmY
 cases hqq:sla r with
 | none=>
   have hQQ:=Lib.hid hqq
   clear hqq hle
   go_wp2_with fail
   refine bodyPost_ret (by simp [results,Tryz.results56,go_sem];try rfl) rfl ?_
   exact ⟨by rw [hV.out,hQQ.out];simp [Xf2,Xco],hx⟩
 | some x=>
   have hx1:=(hle.out x hqq).2.1
   have hQQ:=Lib.hid hqq
   clear hqq hle
   go_wp2_with fail
   refine bodyPost_ret (by simp [results,Tryz.results56,go_sem];try rfl) rfl ?_
   exact ⟨by rw [hV.out,hQQ.out];simp [Xf2],hx⟩
theorem Xjs (c:UInt8) (r:List UInt8) (w:World) (hl:r.length≤999999) (h:Xb6 c=false) (h2:Xbi c=false) (h3:c.toNat=123):Calls Tryz.prog 56 #[.string (bs (c :: r))] w fun e w'=>e=.returned (Xf2 (one (c :: r)))∧Ext w w':=by
 rw [Xe2 c r h h2 (by omega)]
 have y0:((c.toNat:Int) == 34)=false:=by first|(rw [XvM];omega)|fail
 have y1:((c.toNat:Int) == 47)=false:=by first|(rw [XvM];omega)|fail
 have y2:((c.toNat:Int) == 123)=true:=by first|(rw [beq_iff_eq];omega)|fail
 have y3:((c.toNat:Int) == 125)=false:=by first|(rw [XvM];omega)|fail
 have y4:((c.toNat:Int) == 44)=false:=by first|(rw [XvM];omega)|fail
 have y5:((c.toNat:Int) == 61)=false:=by first|(rw [XvM];omega)|fail
 clear h3
 go_enter Tryz.func56,Tryz.ntmps56
 go_wp2_with fail
 refine Calls.mono (Xbx c _) ?_
 rintro e w1 ⟨rfl,rfl⟩
 rw [h]
 go_wp2_with fail
 refine Calls.mono (Xbw c _) ?_
 rintro e w1 ⟨rfl,rfl⟩
 rw [h2]
 go_wp2_with fail
 all_goals (try (go_quiet (fail)))
 all_goals (try go_wp2_with fail)
 all_goals refine bodyPost_ret (by simp [results,Tryz.results56,go_sem];try rfl) rfl ?_
 all_goals exact ⟨by simp [Xf2],(by repeat (first|(with_reducible exact Below.refl _ _)|(with_reducible refine Below.drewN ?_ _)|fail))⟩
theorem Xjt (c:UInt8) (r:List UInt8) (w:World) (hl:r.length≤999999) (h:Xb6 c=false) (h2:Xbi c=false) (h3:c.toNat=125):Calls Tryz.prog 56 #[.string (bs (c :: r))] w fun e w'=>e=.returned (Xf2 (one (c :: r)))∧Ext w w':=by
 rw [Xe2 c r h h2 (by omega)]
 have y0:((c.toNat:Int) == 34)=false:=by first|(rw [XvM];omega)|fail
 have y1:((c.toNat:Int) == 47)=false:=by first|(rw [XvM];omega)|fail
 have y2:((c.toNat:Int) == 123)=false:=by first|(rw [XvM];omega)|fail
 have y3:((c.toNat:Int) == 125)=true:=by first|(rw [beq_iff_eq];omega)|fail
 have y4:((c.toNat:Int) == 44)=false:=by first|(rw [XvM];omega)|fail
 have y5:((c.toNat:Int) == 61)=false:=by first|(rw [XvM];omega)|fail
 clear h3
 go_enter Tryz.func56,Tryz.ntmps56
 go_wp2_with fail
 refine Calls.mono (Xbx c _) ?_
 rintro e w1 ⟨rfl,rfl⟩
 rw [h]
 go_wp2_with fail
 refine Calls.mono (Xbw c _) ?_
 rintro e w1 ⟨rfl,rfl⟩
 rw [h2]
 go_wp2_with fail
 all_goals (try (go_quiet (fail)))
 all_goals (try go_wp2_with fail)
 all_goals refine bodyPost_ret (by simp [results,Tryz.results56,go_sem];try rfl) rfl ?_
 all_goals exact ⟨by simp [Xf2],(by repeat (first|(with_reducible exact Below.refl _ _)|(with_reducible refine Below.drewN ?_ _)|fail))⟩
theorem XkK (c:UInt8) (r:List UInt8) (w:World) (hl:r.length≤999999) (h:Xb6 c=false) (h2:Xbi c=false) (h3:c.toNat=44):Calls Tryz.prog 56 #[.string (bs (c :: r))] w fun e w'=>e=.returned (Xf2 (one (c :: r)))∧Ext w w':=by
 rw [Xe2 c r h h2 (by omega)]
 have y0:((c.toNat:Int) == 34)=false:=by first|(rw [XvM];omega)|fail
 have y1:((c.toNat:Int) == 47)=false:=by first|(rw [XvM];omega)|fail
 have y2:((c.toNat:Int) == 123)=false:=by first|(rw [XvM];omega)|fail
 have y3:((c.toNat:Int) == 125)=false:=by first|(rw [XvM];omega)|fail
 have y4:((c.toNat:Int) == 44)=true:=by first|(rw [beq_iff_eq];omega)|fail
 have y5:((c.toNat:Int) == 61)=false:=by first|(rw [XvM];omega)|fail
 clear h3
 go_enter Tryz.func56,Tryz.ntmps56
 go_wp2_with fail
 refine Calls.mono (Xbx c _) ?_
 rintro e w1 ⟨rfl,rfl⟩
 rw [h]
 go_wp2_with fail
 refine Calls.mono (Xbw c _) ?_
 rintro e w1 ⟨rfl,rfl⟩
 rw [h2]
 go_wp2_with fail
 all_goals (try (go_quiet (fail)))
 all_goals (try go_wp2_with fail)
 all_goals refine bodyPost_ret (by simp [results,Tryz.results56,go_sem];try rfl) rfl ?_
 all_goals exact ⟨by simp [Xf2],(by repeat (first|(with_reducible exact Below.refl _ _)|(with_reducible refine Below.drewN ?_ _)|fail))⟩
theorem XkL (c:UInt8) (r:List UInt8) (w:World) (hl:r.length≤999999) (h:Xb6 c=false) (h2:Xbi c=false) (h3:c.toNat=61):Calls Tryz.prog 56 #[.string (bs (c :: r))] w fun e w'=>e=.returned (Xf2 (one (c :: r)))∧Ext w w':=by
 rw [Xe2 c r h h2 (by omega)]
 have y0:((c.toNat:Int) == 34)=false:=by first|(rw [XvM];omega)|fail
 have y1:((c.toNat:Int) == 47)=false:=by first|(rw [XvM];omega)|fail
 have y2:((c.toNat:Int) == 123)=false:=by first|(rw [XvM];omega)|fail
 have y3:((c.toNat:Int) == 125)=false:=by first|(rw [XvM];omega)|fail
 have y4:((c.toNat:Int) == 44)=false:=by first|(rw [XvM];omega)|fail
 have y5:((c.toNat:Int) == 61)=true:=by first|(rw [beq_iff_eq];omega)|fail
 clear h3
 go_enter Tryz.func56,Tryz.ntmps56
 go_wp2_with fail
 refine Calls.mono (Xbx c _) ?_
 rintro e w1 ⟨rfl,rfl⟩
 rw [h]
 go_wp2_with fail
 refine Calls.mono (Xbw c _) ?_
 rintro e w1 ⟨rfl,rfl⟩
 rw [h2]
 go_wp2_with fail
 all_goals (try (go_quiet (fail)))
 all_goals (try go_wp2_with fail)
 all_goals refine bodyPost_ret (by simp [results,Tryz.results56,go_sem];try rfl) rfl ?_
 all_goals exact ⟨by simp [Xf2],(by repeat (first|(with_reducible exact Below.refl _ _)|(with_reducible refine Below.drewN ?_ _)|fail))⟩
theorem XqP (c:UInt8) (r:List UInt8) (w:World) (hl:r.length≤999999) (h:Xb6 c=false) (h2:Xbi c=false) (h3:c.toNat≠34) (h4:c.toNat≠47) (h5:¬(c.toNat=123∨c.toNat=125∨c.toNat=44∨c.toNat=61)):Calls Tryz.prog 56 #[.string (bs (c :: r))] w fun e w'=>e=.returned (Xf2 (one (c :: r)))∧Ext w w':=by
 rw [XoH c r h h2 h3 h4 h5]
 have y0:((c.toNat:Int) == 34)=false:=by first|(rw [XvM];omega)|fail
 have y1:((c.toNat:Int) == 47)=false:=by first|(rw [XvM];omega)|fail
 have y2:((c.toNat:Int) == 123)=false:=by first|(rw [XvM];omega)|fail
 have y3:((c.toNat:Int) == 125)=false:=by first|(rw [XvM];omega)|fail
 have y4:((c.toNat:Int) == 44)=false:=by first|(rw [XvM];omega)|fail
 have y5:((c.toNat:Int) == 61)=false:=by first|(rw [XvM];omega)|fail
 clear h3 h4 h5
 go_enter Tryz.func56,Tryz.ntmps56
 go_wp2_with fail
 refine Calls.mono (Xbx c _) ?_
 rintro e w1 ⟨rfl,rfl⟩
 rw [h]
 go_wp2_with fail
 refine Calls.mono (Xbw c _) ?_
 rintro e w1 ⟨rfl,rfl⟩
 rw [h2]
 go_wp2_with fail
 refine bodyPost_ret (by simp [results,Tryz.results56,go_sem];try rfl) rfl ?_
 exact ⟨by simp [Xf2,Xco],(by repeat (first|(with_reducible exact Below.refl _ _)|fail))⟩
theorem XqO (c:UInt8) (r:List UInt8) (w:World) (hl:r.length≤999999) :Calls Tryz.prog 56 #[.string (bs (c :: r))] w fun e w'=>e=.returned (Xf2 (one (c :: r)))∧Ext w w':=by
 cases h:Xb6 c with
 | true=>exact Xo3 c r w hl h
 | false=>
   cases h2:Xbi c with
   | true=>exact XqQ c r w hl h h2
   | false=>
     by_cases h3:c.toNat=34
     ·exact XqS c r w hl h h2 h3
     by_cases h4:c.toNat=47
     ·exact XqR c r w hl h h2 h4
     by_cases h5:c.toNat=123
     ·exact Xjs c r w hl h h2 h5
     by_cases h6:c.toNat=125
     ·exact Xjt c r w hl h h2 h6
     by_cases h7:c.toNat=44
     ·exact XkK c r w hl h h2 h7
     by_cases h8:c.toNat=61
     ·exact XkL c r w hl h h2 h8
     exact XqP c r w hl h h2 h3 h4 (by omega)
theorem Xrd {P:Program} {f:FuncId} {args:List Value} {v:Value} (h:∀w,Calls P f args.toArray w fun e w'=>e=.returned v∧w'=w) (H:List Hp):Xa3 P f H (args.map .x) fun r H'=>r=.x v∧H'=H:=
 Xb9 (fun w=>(h w).mono fun e w' ⟨h1,h2⟩=>⟨h1,h2▸Below.refl _ _⟩) H
theorem XlG (l:List UInt8) (hl:l.length≤1000000):Xa3 Tryz.prog 54 [] [.x (.string (bs l))] (fun r H'=>r=.x (.int .i64 (skp l:Nat))∧H'=[]):=Xrd (args:=[.string (bs l)]) (fun w=>Xo4 l w hl) []
theorem Xit (l:List UInt8) (n:Nat) (hl:l.length≤1000000) (hn:n≤l.length):Xa3 Tryz.prog 55 [] [.x (.string (bs l)),.x (.int .i64 n)] (fun r H'=>r=.tup [.x (.int .i64 ((plc (1,1) (l.take n)).1:Nat)),.x (.int .i64 ((plc (1,1) (l.take n)).2:Nat))]∧H'=[]):=
 (Xrd (args:=[.string (bs l),.int .i64 n]) (fun w=>XmO l n w hl hn) []).weak fun r H' ⟨h1,h2⟩=>⟨_,_,by subst h1 h2;exact XaH.mk' [] [] (Xvv _) XaB.nil (VwL.cons (Vw.tupx (l:=[_,_]) (VwL.refl _ _)) VwL.nil),rfl,rfl⟩
def XuI (x:Except Int (Int × List UInt8 × Nat)):AV:=match x with
 | .error e=>.tup [.x (.int .i64 0),.x (.string (bs [])),.x (.int .i64 0),.x (.int .i64 e)]
 | .ok x=>.tup [.x (.int .i64 x.1),.x (.string (bs x.2.1)),.x (.int .i64 (x.2.2:Nat)),.x (.int .i64 0)]
theorem Xu1 (l:List UInt8) (hl:l.length≤1000000) (h0:l≠[]):Xa3 Tryz.prog 56 [] [.x (.string (bs l))] (fun r H'=>r=XuI (one l)∧H'=[]):=by
 cases l with
 | nil=>exact absurd rfl h0
 | cons c r=>
   refine (Xb9 (args:=[.string (bs (c :: r))]) (fun w=>XqO c r w (by simp at hl;omega)) []).weak fun q H' ⟨h1,h2⟩=>?_
   subst h1 h2
   refine ⟨_,_,XaH.mk' [] [] (Xvv _) XaB.nil (VwL.cons ?_ VwL.nil),rfl,rfl⟩
   unfold XuI Xf2
   cases one (c :: r) with
   | error e=>exact Vw.tupx (l:=[_,_,_,_]) (VwL.refl _ _)
   | ok x=>exact Vw.tupx (l:=[_,_,_,_]) (VwL.refl _ _)
def Tok.cells (t:Tok):List AV:=[.x (.int .i64 t.kind),.x (.string (bs t.text)),.x (.int .i64 (t.line:Nat)),.x (.int .i64 (t.col:Nat))]
def ta (l:List Tok):List AV:=l.flatMap Tok.cells
@[simp] theorem Xvn (l:List Tok):(ta l).length=l.length*4:=by
 induction l with
 | nil=>rfl
 | cons j l ih=>simp only [ta,List.flatMap_cons,XvH,Xvy] at ih ⊢;rw [ih];simp [Tok.cells];omega
theorem XlK (l m:List Tok):ta (l++m)=ta l++ta m:=by simp [ta]
theorem XeB (l:List Tok) (k:Nat) (h:k < l.length):(ta l).drop (k*4)=l[k].cells++ta (l.drop (k+1)):=by
 induction l generalizing k with
 | nil=>simp at h
 | cons j l ih=>
   have hc:j.cells.length=4:=rfl
   cases k with
   | zero=>simp [ta]
   | succ k=>
     simp only [ta,List.flatMap_cons,List.drop_succ_cons,List.getElem_cons_succ] at ih ⊢
     rw [show (k+1)*4=4+k*4 from by omega,←List.drop_drop,List.drop_append_of_le_length (by omega),show j.cells.drop 4=[] from rfl,XvF]
     exact ih k (by simpa using h)
def Xd4:Except Flt (List Tok)→List Tok|.ok l=>l|.error _=>[]
def XhY:Except Flt (List Tok)→Flt|.ok _=>⟨0,0,0⟩|.error f=>f
def Flt.av (f:Flt):AV:=.x (.agg #[.int .i64 f.code,.int .i64 (f.line:Nat),.int .i64 (f.col:Nat)])
theorem Xck (l:List UInt8) (k:Nat):(k:Int)+(skp (l.drop k):Nat)=(nxk l k:Nat):=by unfold nxk;omega
theorem XoI {l:List UInt8} {e:Int} (h:one l=.error e):50≤e∧e≤53:=by
 cases l with
 | nil=>simp [one] at h;omega
 | cons c r=>
   simp only [one] at h
   repeat' (first|(split at h)|(cases h;done)|(cases h;omega)|fail)
   all_goals (first|(cases h;omega)|fail)
theorem XrI (l:List UInt8) (hl:l.length≤1000000):Xa3 Tryz.prog 27 [] [.x (.string (bs l))] (fun r H'=>r=.tup [.sq (Xd4 (lex l)).length (ta (Xd4 (lex l))),(XhY (lex l)).av]∧H'=[]):=by
 refine XaD Tryz.func27 rfl ?_
 simp only [Tryz.ntmps27,Xvy,XvB,XvC,XvD,XvG,XvF,Nat.reduceAdd,Nat.reduceSub]
 (repeat' (first|with_reducible (first|refine Xag ?_|refine Xac ?_|refine Xao ?_|refine Xar ?_|refine Xau ?_|refine Xae ?_|refine Xaa ?_|refine Xax ?_)|(refine Xak _ rfl (fun h=>?_) (fun h=>?_)<;>((try (simp only [whn] at h));skip))|((apply Xad rfl);(case h=>(first|(apply Xab 0 rfl;(first|exact Xap _ rfl|exact Xan _ rfl))|(apply Xab 10 rfl;(exact Xa1 _ _ _ _ _ rfl HPl.out (by first|rfl|fail) rfl))|(apply XaC;(case hs=>(intro _ _ h;cases h));(case hx=>rfl);(case hrun=>(intro w;simp [wtb,AV.val,go_sem];skip;rfl)))));(case hT=>((try simp only [wtn,↓reduceIte]);rfl)))|(refine Xai rfl ?_;((first|(refine Xas 14 rfl ?_;(refine XaK _ _ rfl Xbk.out rfl (fun b=>?_)))|(refine Xas 16 rfl ?_;(refine Xaw _ _ _ _ _ _ _ rfl rfl XaS.out XaR.out (by first|rfl|fail) (by first|exact Xvu rfl|fail) ?_)));apply Xah;(case hT=>((try simp only [wtn]);rfl));(case hH=>((try simp only [wtn,Nat.reduceAdd]);rfl))))|fail))
 case hK.h.hK.hK.hK.refine_1.hK.hK.h=>
  have e:lex l=.error ⟨1,0,0⟩:=by unfold lex;rw [if_pos (by omega)]
  rw [e]
  refine Xaf _ _ (XcB rfl (RV.tmp _) (RV.cell 0 rfl rfl XaN.out (by simp) (by simp)) (XaH.mk' [_] [] (Xvv _) XaB.nil (VwL.cons Vw.nil (VwL.refl _ _)))) ?_
  exact ⟨rfl,rfl⟩
 have hlex:lex l=Xci (1,1) 0 l:=by unfold lex;rw [if_neg (by omega)]
 rw [hlex]
 refine Xbt 111 4 ?_
 refine XaQ (S:=Nat × List Tok × Option Addr × Nat) (fun s=>frm 72 [(0,.x (.string (bs l))),(3,.x (.pointer (some ⟨b,0,none⟩))),(4,.x (.slice s.2.2.1 s.2.1.length s.2.2.2)),(5,.x (.int .i64 s.1))])
  (fun s=>[.row s.2.2.1 s.2.1.length s.2.2.2 111 4 (ta s.2.1),.box b [.x (.int .i64 0),.x (.int .i64 0),.x (.int .i64 0)]]) (fun s=>XiA l s.1 s.2.1) (fun s=>l.length - s.1) (0,[],none,0) ?a (XiA.start l) fun s hs=>?_
 case a=>exact (XaH.mk' [] _ (Xvv _) (XaB.refl _ _) (by (repeat' (first|exact VwL.nil|(refine VwL.cons ?_ ?_)|exact Vw.refl _|exact Vw.top _|fail))))
 obtain ⟨k,ts,ad,cap⟩:=s
 simp only at hs
 have hk:=hs.le
 have hnk:=Xrx (l:=l) hk
 have hcn:=hs.cnt
 have hk2:k≤nxk l k:=by unfold nxk;omega
 have hsk:k+skp (l.drop k)≤l.length:=hnk
 have hs':=Lib.hid hs
 have hlex':=Lib.hid hlex
 clear hs hlex
 simp only [frm,XvC,XvD,Xvw,Xvx,XvJ,XvK]
 by_cases he:l.length≤nxk l k
 ·have hfin:=Lib.hid (hs'.out.fin he)
  (repeat' (first|with_reducible (first|refine Xag ?_|refine Xac ?_|refine Xao ?_|refine Xar ?_|refine Xae ?_|refine Xaa ?_|refine Xax ?_|refine Xav ?_)|(refine Xak _ rfl (fun h=>?_) (fun h=>?_)<;>((try (simp only [whn] at h));first|(exfalso;omega;done)|skip))|((apply Xad rfl);(case h=>(first|(apply Xab 0 rfl;(first|exact Xap _ rfl|exact Xan _ rfl))|(apply Xab 2 rfl;(exact XaM _ _ _ _ rfl rfl rfl))|(apply Xab 9 rfl;(exact Xbn _ _ _ _ _ _ _ rfl rfl (by kernel_rfl) (by first|exact .inr ⟨_,_,rfl,rfl⟩|fail) (by first|exact .inl ⟨rfl,rfl⟩|fail) (by omega) (by omega)))|(apply Xab 10 rfl;(exact Xa1 _ _ _ _ _ rfl HPl.out (by first|rfl|fail) rfl))|(apply Xab 11 rfl;(first|exact Xay 54 Tryz.f54 _ _ rfl rfl Tryz.func54 (by decide) rfl (VwL.refl _ _) (XlG (l.drop k) (by simp;omega))|exact Xay 55 Tryz.f55 _ _ rfl rfl Tryz.func55 (by decide) rfl (VwL.refl _ _) (Xit l (nxk l k) hl hnk)))|(apply XaC;(case hs=>(intro _ _ h;cases h));(case hx=>rfl);(case hrun=>(intro w;simp [wtb,AV.val,go_sem];(try go_bits);rfl)))));(case hT=>((try simp (disch:=omega) only [wtn,List.take_length,Xck,Xvz,Xvw,Xvx,XvA,XvE,Nat.reduceAdd,Nat.reduceMul,Nat.reduceSub,↓reduceIte,Nat.reduceEqDiff]);rfl)))|(refine Xai rfl ?_;((first|(refine Xas 13 rfl ?_;(refine XaP _ _ _ _ _ _ _ _ _ _ _ _ _ _ rfl rfl Xb3.out (Src.row _ rfl Xb3.out) XaY.out (by first|rfl|fail) (XdQ _ _ (by omega) (by decide)) (fun ad cap=>?_)))|(refine Xas 16 rfl ?_;(refine Xaw _ _ _ _ _ _ _ rfl rfl XaS.out XaR.out (by first|rfl|fail) (by first|exact Xvu rfl|fail) ?_))|(refine Xas 17 rfl ?_;(refine XaE _ _ _ _ _ _ _ _ rfl XaY.out (by first|rfl|fail) rfl (by decide) rfl (fun b=>?_))));apply Xah;(case hT=>((try simp (disch:=omega) only [wtn,List.take_length,Xck,Xvz,Xvw,Xvx,XvA,XvE,Nat.reduceAdd,Nat.reduceMul,Nat.reduceSub,↓reduceIte,Nat.reduceEqDiff]);rfl));(case hH=>((try simp (disch:=omega) only [wtn,List.take_length,Xck,Xvz,Xvw,Xvx,XvA,XvE,Nat.reduceAdd,Nat.reduceMul,Nat.reduceSub,↓reduceIte,Nat.reduceEqDiff]);rfl))))|fail))
  rw [hfin.out]
  refine Xaf _ _ (XcB rfl (RV.tmp _) (RV.cell 2 rfl rfl XaN.out (by simp) (by simp)) (XaH.mk' [_,_,_] [] (Xvv _) XaB.nil (VwL.cons (Vw.row (List.Mem.tail _ (List.Mem.head _)) (VwL.refl _ _)) (VwL.refl _ _)))) ?_
  refine ⟨?_,rfl⟩
  simp only [Xd4,XhY,Flt.av,XlK,XvH,Xvy,XvB]
  rfl
 ·obtain ⟨c,r,hc1,hc2⟩:=hs'.out.cons (by omega)
  have ho:=Xu1 (l.drop (nxk l k)) (by simp;omega) (by rw [hc1];simp)
  have hkl:nxk l k < l.length:=by omega
  cases h1:one (l.drop (nxk l k)) with
  | error e=>
    have he1:=XoI h1
    have hb:=Lib.hid (hs'.out.bad hc2 (by rw [←hc1];exact h1))
    rw [h1] at ho
    simp only [XuI] at ho
    clear hc1 hc2 h1
    (repeat' (first|with_reducible (first|refine Xag ?_|refine Xac ?_|refine Xao ?_|refine Xar ?_|refine Xau ?_|refine Xae ?_|refine Xaa ?_|refine Xax ?_|refine Xav ?_)|(refine Xak _ rfl (fun h=>?_) (fun h=>?_)<;>((try (simp only [whn] at h));first|(exfalso;omega;done)|skip))|((first|apply Xad rfl|apply Xa8 _ _ rfl rfl rfl);(case h=>((try (intro (hp:(_:Bool)=true);((try simp only [hp]);(try simp only [whn] at hp))));(first|(apply Xab 0 rfl;(first|exact Xap _ rfl|exact Xan _ rfl))|(apply Xab 1 rfl;(exact XbC _ _ _ _ _ rfl rfl rfl rfl))|(apply Xab 2 rfl;(exact XaM _ _ _ _ rfl rfl rfl))|(apply Xab 9 rfl;(exact Xbn _ _ _ _ _ _ _ rfl rfl (by kernel_rfl) (by first|exact .inr ⟨_,_,rfl,rfl⟩|fail) (by first|exact .inl ⟨rfl,rfl⟩|fail) (by omega) (by omega)))|(apply Xab 10 rfl;(exact Xa1 _ _ _ _ _ rfl HPl.out (by first|rfl|fail) rfl))|(apply Xab 11 rfl;(first|exact Xay 54 Tryz.f54 _ _ rfl rfl Tryz.func54 (by decide) rfl (VwL.refl _ _) (XlG (l.drop k) (by simp;omega))|exact Xay 55 Tryz.f55 _ _ rfl rfl Tryz.func55 (by decide) rfl (VwL.refl _ _) (Xit l (nxk l k) hl hnk)|exact Xay 56 Tryz.f56 _ _ rfl rfl Tryz.func56 (by decide) rfl (VwL.refl _ _) (ho)))|(apply XaC;(case hs=>(intro _ _ h;cases h));(case hx=>rfl);(case hrun=>(intro w;simp [wtb,AV.val,go_sem];(try go_bits);rfl))))));(case hT=>((try simp (disch:=omega) only [wtn,List.take_length,Xck,Xvz,Xvw,Xvx,XvA,XvE,Nat.reduceAdd,Nat.reduceMul,Nat.reduceSub,↓reduceIte,Nat.reduceEqDiff]);rfl)))|(refine Xai rfl ?_;((refine Xas 16 rfl ?_;(refine Xaw _ _ _ _ _ _ _ rfl rfl XaS.out XaR.out (by first|rfl|fail) (by first|exact Xvu rfl|fail) ?_));apply Xah;(case hT=>((try simp (disch:=omega) only [wtn,List.take_length,Xck,Xvz,Xvw,Xvx,XvA,XvE,Nat.reduceAdd,Nat.reduceMul,Nat.reduceSub,↓reduceIte,Nat.reduceEqDiff]);rfl));(case hH=>((try simp (disch:=omega) only [wtn,List.take_length,Xck,Xvz,Xvw,Xvx,XvA,XvE,Nat.reduceAdd,Nat.reduceMul,Nat.reduceSub,↓reduceIte,Nat.reduceEqDiff]);rfl))))|fail))
    rw [hb.out]
    refine Xaf _ _ (XcB rfl (RV.tmp _) (RV.cell 1 rfl rfl XaN.out (by simp) (by simp)) (XaH.mk' [_,_] [] (Xvv _) XaB.nil (VwL.cons Vw.nil (VwL.refl _ _)))) ?_
    exact ⟨rfl,rfl⟩
  | ok x=>
    obtain ⟨a,t,m⟩:=x
    rw [h1] at ho
    simp only [XuI] at ho
    obtain ⟨g1,g2,g3,g4⟩:=XfG h1
    simp only [List.length_drop] at g1 g2 g3
    by_cases hf:2000≤ts.length
    ·have hb:=Lib.hid (hs'.out.full hc2 (by rw [←hc1];exact h1) hf)
     clear hc1 hc2 h1
     (repeat' (first|with_reducible (first|refine Xag ?_|refine Xac ?_|refine Xao ?_|refine Xar ?_|refine Xau ?_|refine Xae ?_|refine Xaa ?_|refine Xax ?_|refine Xav ?_)|(refine Xak _ rfl (fun h=>?_) (fun h=>?_)<;>first|(exact absurd h (by decide))|((try (simp only [whn] at h));first|(exfalso;omega;done)|skip))|((first|apply Xad rfl|apply Xa8 _ _ rfl rfl rfl);(case h=>((try (intro (hp:(_:Bool)=true);((try simp only [] at hp);skip;skip)));(first|(apply Xab 0 rfl;(first|exact Xap _ rfl|exact Xan _ rfl))|(apply Xab 1 rfl;(exact XcQ _ _ _ rfl rfl))|(apply Xab 2 rfl;(exact XaM _ _ _ _ rfl rfl rfl))|(apply Xab 9 rfl;(exact Xbn _ _ _ _ _ _ _ rfl rfl (by kernel_rfl) (by first|exact .inr ⟨_,_,rfl,rfl⟩|fail) (by first|exact .inl ⟨rfl,rfl⟩|fail) (by omega) (by omega)))|(apply Xab 10 rfl;(exact Xa1 _ _ _ _ _ rfl HPl.out (by first|rfl|fail) rfl))|(apply Xab 11 rfl;(first|exact Xay 54 Tryz.f54 _ _ rfl rfl Tryz.func54 (by decide) rfl (VwL.refl _ _) (XlG (l.drop k) (by simp;omega))|exact Xay 55 Tryz.f55 _ _ rfl rfl Tryz.func55 (by decide) rfl (VwL.refl _ _) (Xit l (nxk l k) hl hnk)|exact Xay 56 Tryz.f56 _ _ rfl rfl Tryz.func56 (by decide) rfl (VwL.refl _ _) (ho)))|(apply XaC;(case hs=>(intro _ _ h;cases h));(case hx=>rfl);(case hrun=>(intro w;simp [wtb,AV.val,go_sem];(try go_bits);rfl))))));(case hT=>((try simp (disch:=omega) only [wtn,List.take_length,Xck,Xvz,Xvw,Xvx,XvA,XvE,Nat.reduceAdd,Nat.reduceMul,Nat.reduceSub,↓reduceIte,Nat.reduceEqDiff]);rfl)))|(refine Xai rfl ?_;((refine Xas 16 rfl ?_;(refine Xaw _ _ _ _ _ _ _ rfl rfl XaS.out XaR.out (by first|rfl|fail) (by first|exact Xvu rfl|fail) ?_));apply Xah;(case hT=>((try simp (disch:=omega) only [wtn,List.take_length,Xck,Xvz,Xvw,Xvx,XvA,XvE,Nat.reduceAdd,Nat.reduceMul,Nat.reduceSub,↓reduceIte,Nat.reduceEqDiff]);rfl));(case hH=>((try simp (disch:=omega) only [wtn,List.take_length,Xck,Xvz,Xvw,Xvx,XvA,XvE,Nat.reduceAdd,Nat.reduceMul,Nat.reduceSub,↓reduceIte,Nat.reduceEqDiff]);rfl))))|fail))
     rw [hb.out]
     refine Xaf _ _ (XcB rfl (RV.tmp _) (RV.cell 1 rfl rfl XaN.out (by simp) (by simp)) (XaH.mk' [_,_] [] (Xvv _) XaB.nil (VwL.cons Vw.nil (VwL.refl _ _)))) ?_
     exact ⟨rfl,rfl⟩
    ·have hb:=Lib.hid (hs'.out.next hc2 (by rw [←hc1];exact h1) (by omega))
     clear hc1 hc2 h1
     (repeat' (first|with_reducible (first|refine Xag ?_|refine Xac ?_|refine Xao ?_|refine Xau ?_|refine Xae ?_|refine Xaa ?_|refine Xaj ?_)|(refine Xak _ rfl (fun h=>?_) (fun h=>?_)<;>first|(exact absurd h (by decide))|((try (simp only [whn] at h));first|(exfalso;omega;done)|skip))|((first|apply Xad rfl|apply Xa8 _ _ rfl rfl rfl);(case h=>((try (intro (hp:(_:Bool)=true);((try simp only [] at hp);skip;skip)));(first|(apply Xab 0 rfl;(first|exact Xap _ rfl|exact Xan _ rfl))|(apply Xab 1 rfl;(exact XcQ _ _ _ rfl rfl))|(apply Xab 2 rfl;(exact XaM _ _ _ _ rfl rfl rfl))|(apply Xab 9 rfl;(exact Xbn _ _ _ _ _ _ _ rfl rfl (by kernel_rfl) (by first|exact .inr ⟨_,_,rfl,rfl⟩|fail) (by first|exact .inl ⟨rfl,rfl⟩|fail) (by omega) (by omega)))|(apply Xab 10 rfl;(exact Xa1 _ _ _ _ _ rfl HPl.out (by first|rfl|fail) rfl))|(apply Xab 11 rfl;(first|exact Xay 54 Tryz.f54 _ _ rfl rfl Tryz.func54 (by decide) rfl (VwL.refl _ _) (XlG (l.drop k) (by simp;omega))|exact Xay 55 Tryz.f55 _ _ rfl rfl Tryz.func55 (by decide) rfl (VwL.refl _ _) (Xit l (nxk l k) hl hnk)|exact Xay 56 Tryz.f56 _ _ rfl rfl Tryz.func56 (by decide) rfl (VwL.refl _ _) (ho)))|(apply XaC;(case hs=>(intro _ _ h;cases h));(case hx=>rfl);(case hrun=>(intro w;simp [wtb,AV.val,go_sem];(try go_bits);rfl))))));(case hT=>((try simp (disch:=omega) only [wtn,List.take_length,Xck,Xvz,Xvw,Xvx,XvA,XvE,Nat.reduceAdd,Nat.reduceMul,Nat.reduceSub,↓reduceIte,Nat.reduceEqDiff]);rfl)))|(refine Xai rfl ?_;((first|(refine Xas 13 rfl ?_;(refine XaP _ _ _ _ _ _ _ _ _ _ _ _ _ _ rfl rfl Xb3.out (Src.row _ rfl Xb3.out) XaY.out (by first|rfl|fail) (XdQ _ _ (by omega) (by decide)) (fun ad cap=>?_)))|(refine Xas 17 rfl ?_;(refine XaE _ _ _ _ _ _ _ _ rfl XaY.out (by first|rfl|fail) rfl (by decide) rfl (fun b=>?_))));apply Xah;(case hT=>((try simp (disch:=omega) only [wtn,List.take_length,Xck,Xvz,Xvw,Xvx,XvA,XvE,Nat.reduceAdd,Nat.reduceMul,Nat.reduceSub,↓reduceIte,Nat.reduceEqDiff]);rfl));(case hH=>((try simp (disch:=omega) only [wtn,List.take_length,Xck,Xvz,Xvw,Xvx,XvA,XvE,Nat.reduceAdd,Nat.reduceMul,Nat.reduceSub,↓reduceIte,Nat.reduceEqDiff]);rfl))))|fail))
     refine ⟨(nxk l k+m,_,ad,cap),by simp only;omega,hb.out,?_⟩
     simp only [XlK,XvH,Xvy,XvB]
     exact (XaH.mk' [_] [_,_] (Xvv _) (XaB.refl _ _) (by (repeat' (first|exact VwL.nil|(refine VwL.cons ?_ ?_)|exact Vw.refl _|exact Vw.top _|fail))))
end Go.Proofs.YtdpobjakdplljaaGreatDoor
