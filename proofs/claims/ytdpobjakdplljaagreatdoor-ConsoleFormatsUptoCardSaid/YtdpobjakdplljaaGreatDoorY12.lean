import Derived.Test.YtdpobjakdplljaaGreatDoorY9
import Derived.Test.YtdpobjakdplljaaGreatDoorY2
import Derived.Test.YtdpobjakdplljaaGreatDoorY11
import Derived.Test.YtdpobjakdplljaaGreatDoorRows
import Derived.Test.YtdpobjakdplljaaGreatDoorY0
import Derived.Test.YtdpobjakdplljaaGreatDoorY10
/- The reference of the lexer: letter, digit, half, part. -/
set_option linter.unusedSimpArgs false
set_option linter.unusedVariables false
set_option maxRecDepth 100000
set_option maxHeartbeats 8000000
namespace Go.Proofs.YtdpobjakdplljaaGreatDoor
open Go.RowKit
theorem Xlz {a b:Bool} (h:a=b):Ending.returned (.bool a)=.returned (.bool b):=by rw [h]
theorem Xue {a b:Int} (h:a=b) (c:Bool):Ending.returned (.tuple #[.int .u8 a,.bool c])=.returned (.tuple #[.int .u8 b,.bool c]):=by rw [h]
theorem Xbx (b:UInt8) (w:World):Calls Tryz.prog 91 #[.int .u8 b.toNat] w fun e w'=>e=.returned (.bool (Xb6 b))∧w'=w:=by
 go_enter Tryz.func91,Tryz.ntmps91
 go_wp2_with fail
 all_goals go_ret
 all_goals unfold Xb6
 all_goals exact ⟨Xlz (by rw [Bool.eq_iff_iff];simp only [Bool.or_eq_true,Bool.and_eq_true,decide_eq_true_eq,beq_iff_eq,bne_iff_ne,Bool.not_eq_true,Bool.not_eq_true',decide_eq_false_iff_not,reduceCtorEq,iff_true,true_iff,iff_false,false_iff,Bool.false_eq_true,ne_eq]<;>omega),rfl⟩
theorem Xbw (b:UInt8) (w:World):Calls Tryz.prog 93 #[.int .u8 b.toNat] w fun e w'=>e=.returned (.bool (Xbi b))∧w'=w:=by
 go_enter Tryz.func93,Tryz.ntmps93
 go_wp2_with fail
 all_goals go_ret
 all_goals unfold Xbi
 all_goals exact ⟨Xlz (by rw [Bool.eq_iff_iff];simp only [Bool.or_eq_true,Bool.and_eq_true,decide_eq_true_eq,beq_iff_eq,bne_iff_ne,Bool.not_eq_true,Bool.not_eq_true',decide_eq_false_iff_not,reduceCtorEq,iff_true,true_iff,iff_false,false_iff,Bool.false_eq_true,ne_eq]<;>omega),rfl⟩
def Xps (b:UInt8):Value:=match XgV b with|none=>.tuple #[.int .u8 0,.bool false]|some n=>.tuple #[.int .u8 (n:Nat),.bool true]
theorem XcV (b:UInt8) (w:World):Calls Tryz.prog 164 #[.int .u8 b.toNat] w fun e w'=>e=.returned (Xps b)∧w'=w:=by
 have hb:=b.toNat_lt
 go_enter Tryz.func164,Tryz.ntmps164
 go_wp2_with fail
 refine Calls.mono (Xbw b _) ?_
 rintro e w1 ⟨rfl,rfl⟩
 cases hd:Xbi b
 all_goals
  go_wp2_with fail
  all_goals go_ret2
  all_goals
   simp only [Xbi,decide_eq_true_eq,decide_eq_false_iff_not] at hd
   refine ⟨?_,rfl⟩
   unfold Xps XgV
   repeat rw [if_neg (by omega)]
   first|rfl|(rw [if_pos (by omega)];exact Xue (by omega) _)|fail
def Xie (l:List UInt8):Value:=match part l with|none=>.tuple #[.int .u8 0,.int .i64 0]|some x=>.tuple #[.int .u8 x.1.toNat,.int .i64 (x.2:Nat)]
def Xg0 (l:List UInt8):Value:=match Xeo l with|none=>.tuple #[.int .u8 0,.int .i64 0]|some x=>.tuple #[.int .u8 x.1.toNat,.int .i64 ((x.2:Int)+1)]
theorem Xju (l:List UInt8) (w:World) (hl:l.length≤1000000):Calls Tryz.prog 132 #[.string (bs l)] w fun e w'=>e=.returned (Xie l)∧w'=w:=by
 cases l with
 | nil=>
   go_enter Tryz.func132,Tryz.ntmps132
   go_wp2_with fail
   all_goals go_ret2
   all_goals exact ⟨rfl,rfl⟩
 | cons c r=>
   have hb:=c.toNat_lt
   simp only [Xvy] at hl
   by_cases h1:c.toNat < 32∨c.toNat=34
   ·have hp:Xie (c :: r)=.tuple #[.int .u8 0,.int .i64 0]:=by unfold Xie;rw [Xb0,if_pos h1]
    rw [hp]
    go_enter Tryz.func132,Tryz.ntmps132
    go_wp2_with fail
    all_goals go_ret2
    all_goals first|exact ⟨rfl,rfl⟩|(exfalso;(try simp only [beq_iff_eq,bne_iff_ne,XvM,ne_eq,Bool.not_eq_true,decide_eq_true_eq,decide_eq_false_iff_not,Bool.or_eq_true,Bool.or_eq_false_iff,Bool.and_eq_true,Bool.and_eq_false_iff,bne_eq_false_iff_eq,Bool.not_eq_true',Bool.not_eq_false'] at *);omega)|fail
   ·by_cases h2:c.toNat=92
    ·have he:Xie (c :: r)=Xg0 r:=by
      unfold Xie Xg0;rw [Xb0,if_neg h1,if_neg (by simpa using h2)];cases Xeo r<;>rfl
     rw [he]
     cases r with
     | nil=>
       have hv:Xg0 []=.tuple #[.int .u8 0,.int .i64 0]:=rfl
       rw [hv]
       go_enter Tryz.func132,Tryz.ntmps132
       go_wp2_with fail
       all_goals go_ret2
       all_goals first|exact ⟨rfl,rfl⟩|fail
     | cons d r=>
       simp only [Xvy] at hl
       have hd:=d.toNat_lt
       by_cases d1:d.toNat=34∨d.toNat=92
       ·have hv:Xg0 (d :: r)=.tuple #[.int .u8 d.toNat,.int .i64 2]:=by unfold Xg0;rw [Xgo d r d1];rfl
        rw [hv]
        go_enter Tryz.func132,Tryz.ntmps132
        go_wp2_with fail
        all_goals go_ret2
        all_goals first|exact ⟨rfl,rfl⟩|fail
       by_cases d2:d.toNat=110
       ·have hv:Xg0 (d :: r)=.tuple #[.int .u8 10,.int .i64 2]:=by unfold Xg0;rw [XnW d r d2];rfl
        rw [hv]
        go_enter Tryz.func132,Tryz.ntmps132
        go_wp2_with fail
        all_goals go_ret2
        all_goals first|exact ⟨rfl,rfl⟩|fail
       by_cases d3:d.toNat=116
       ·have hv:Xg0 (d :: r)=.tuple #[.int .u8 9,.int .i64 2]:=by unfold Xg0;rw [XnY d r d3];rfl
        rw [hv]
        go_enter Tryz.func132,Tryz.ntmps132
        go_wp2_with fail
        all_goals go_ret2
        all_goals first|exact ⟨rfl,rfl⟩|fail
       by_cases d4:d.toNat=120
       ·rcases r with _|⟨x,_|⟨y,r⟩⟩
        ·have hv:Xg0 [d]=.tuple #[.int .u8 0,.int .i64 0]:=by unfold Xg0;rw [XnZ d d4]
         rw [hv]
         go_enter Tryz.func132,Tryz.ntmps132
         go_wp2_with fail
         all_goals go_ret2
         all_goals first|exact ⟨rfl,rfl⟩|fail
        ·have hv:Xg0 [d,x]=.tuple #[.int .u8 0,.int .i64 0]:=by unfold Xg0;rw [Xn0 d x d4]
         rw [hv]
         go_enter Tryz.func132,Tryz.ntmps132
         go_wp2_with fail
         all_goals go_ret2
         all_goals first|exact ⟨rfl,rfl⟩|fail
        ·simp only [Xvy] at hl
         cases hx:XgV x with
         | none=>
           have hv:Xg0 (d :: x :: y :: r)=.tuple #[.int .u8 0,.int .i64 0]:=by unfold Xg0;rw [Xgp d x y r d4,hx];rfl
           rw [hv]
           cases hy:XgV y with
           | none=>
             go_enter Tryz.func132,Tryz.ntmps132
             go_wp2_with fail
             refine Calls.mono (XcV x _) ?_
             rintro e w1 ⟨rfl,rfl⟩
             unfold Xps
             rw [hx]
             go_wp2_with fail
             refine Calls.mono (XcV y _) ?_
             rintro e w2 ⟨rfl,rfl⟩
             unfold Xps
             rw [hy]
             go_wp2_with fail
             all_goals go_ret2
             all_goals first|exact ⟨rfl,rfl⟩|fail
           | some n=>
             go_enter Tryz.func132,Tryz.ntmps132
             go_wp2_with fail
             refine Calls.mono (XcV x _) ?_
             rintro e w1 ⟨rfl,rfl⟩
             unfold Xps
             rw [hx]
             go_wp2_with fail
             refine Calls.mono (XcV y _) ?_
             rintro e w2 ⟨rfl,rfl⟩
             unfold Xps
             rw [hy]
             go_wp2_with fail
             all_goals go_ret2
             all_goals first|exact ⟨rfl,rfl⟩|fail
         | some m=>
           cases hy:XgV y with
           | none=>
             have hv:Xg0 (d :: x :: y :: r)=.tuple #[.int .u8 0,.int .i64 0]:=by unfold Xg0;rw [Xgp d x y r d4,hx,hy];rfl
             rw [hv]
             go_enter Tryz.func132,Tryz.ntmps132
             go_wp2_with fail
             refine Calls.mono (XcV x _) ?_
             rintro e w1 ⟨rfl,rfl⟩
             unfold Xps
             rw [hx]
             go_wp2_with fail
             refine Calls.mono (XcV y _) ?_
             rintro e w2 ⟨rfl,rfl⟩
             unfold Xps
             rw [hy]
             go_wp2_with fail
             all_goals go_ret2
             all_goals first|exact ⟨rfl,rfl⟩|fail
           | some n=>
             have hv:Xg0 (d :: x :: y :: r)=.tuple #[.int .u8 ((16*m+n:Nat):Int),.int .i64 4]:=by
              have hm:=Xfl hx
              have hn:=Xfl hy
              unfold Xg0;rw [Xgp d x y r d4,hx,hy];simp;omega
             rw [hv]
             have hm:=Xfl hx
             have hn:=Xfl hy
             have x1:IntKind.u8.wrap (16*(m:Int))=16*m:=IntWalk.u8_in _ (by omega)
             have x2:IntKind.u8.wrap (16*(m:Int)+n)=16*m+n:=IntWalk.u8_in _ (by omega)
             go_enter Tryz.func132,Tryz.ntmps132
             go_wp2_with fail
             refine Calls.mono (XcV x _) ?_
             rintro e w1 ⟨rfl,rfl⟩
             unfold Xps
             rw [hx]
             go_wp2_with fail
             refine Calls.mono (XcV y _) ?_
             rintro e w2 ⟨rfl,rfl⟩
             unfold Xps
             rw [hy]
             go_wp2_with fail
             all_goals go_ret2
             all_goals first|exact ⟨rfl,rfl⟩|fail
       ·have hv:Xg0 (d :: r)=.tuple #[.int .u8 0,.int .i64 0]:=by unfold Xg0;rw [XnX d r (by omega)]
        rw [hv]
        go_enter Tryz.func132,Tryz.ntmps132
        go_wp2_with fail
        all_goals go_ret2
        all_goals first|exact ⟨rfl,rfl⟩|fail
    ·have hp:Xie (c :: r)=.tuple #[.int .u8 c.toNat,.int .i64 1]:=by unfold Xie;rw [Xb0,if_neg h1,if_pos h2];rfl
     rw [hp]
     go_enter Tryz.func132,Tryz.ntmps132
     go_wp2_with fail
     all_goals go_ret2
     all_goals first|exact ⟨rfl,rfl⟩|(exfalso;(try simp only [beq_iff_eq,bne_iff_ne,XvM,ne_eq,Bool.not_eq_true,decide_eq_true_eq,decide_eq_false_iff_not,Bool.or_eq_true,Bool.or_eq_false_iff,Bool.and_eq_true,Bool.and_eq_false_iff,bne_eq_false_iff_eq,Bool.not_eq_true',Bool.not_eq_false'] at *);omega)|fail
theorem Xq5 {v n:Int} (hn:0 < n) (h:v.tmod n < 0):v.tmod n+n=v % n:=by
 rw [Int.tmod_eq_emod] at *
 have:=Int.emod_nonneg v (show n≠0 by omega)
 split at h<;>rename_i hc<;>simp [hc] at *
 ·omega
 ·omega
theorem Xq6 {v n:Int} (hn:0 < n) (h:0≤v.tmod n):v.tmod n=v % n:=by
 rw [Int.tmod_eq_emod] at *
 have:=Int.emod_lt_of_pos v hn
 split<;>rename_i hc<;>simp [hc] at *
 omega
theorem Xex {a b:Int} (h:a=b):Ending.returned (.int .i64 a)=.returned (.int .i64 b):=by rw [h]
theorem XsE (v n:Int) (w:World) (hn:1≤n) (hn2:n≤9223372036854775807) (hv : -9223372036854775808≤v) (hv2:v≤9223372036854775807) :
  Calls Tryz.prog 16 #[.int .i64 v,.int .i64 n] w fun e w'=>e=.returned (.int .i64 (v % n))∧w=w':=by
 have h0:¬n=0:=by omega
 have h1:v.tmod n < n:=Int.tmod_lt_of_pos v (by omega)
 have h2 : -n < v.tmod n:=by
  have:=Int.lt_tmod_of_pos v (show 0 < n by omega);omega
 go_enter Tryz.func16,Tryz.ntmps16
 go_wp2
 all_goals go_ret
 ·exact ⟨Xex (Xq5 (by omega) (by assumption)),rfl⟩
 ·exact ⟨Xex (Xq6 (by omega) (by assumption)),rfl⟩
theorem XsR (p:Nat × Nat) (a b:List UInt8):plc p (a++b)=plc (plc p a) b:=by
 induction a generalizing p with
 | nil=>rfl
 | cons c r ih=>exact ih _
theorem XqI (p:Nat × Nat) (l:List UInt8) (k:Nat) (h:k < l.length):plc p (l.take (k+1))=if l[k].toNat=10 then ((plc p (l.take k)).1+1,1) else ((plc p (l.take k)).1,(plc p (l.take k)).2+1):=by
 rw [List.take_succ_eq_append_getElem h,XsR];rfl
theorem Xub (p:Nat × Nat) (l:List UInt8):(plc p l).1≤p.1+l.length∧(plc p l).2≤p.2+l.length+1:=by
 induction l generalizing p with
 | nil=>simp [plc]
 | cons c r ih=>
   have:=ih (if c.toNat=10 then (p.1+1,1) else (p.1,p.2+1))
   simp only [plc,Xvy]
   split at this<;>rename_i hc<;>simp only [hc,if_true,if_false]<;>simp only at this<;>omega
theorem XmO (l:List UInt8) (n:Nat) (w:World) (hl:l.length≤1000000) (hn:n≤l.length):Calls Tryz.prog 55 #[.string (bs l),.int .i64 n] w fun e w'=>
  e=.returned (.tuple #[.int .i64 ((plc (1,1) (l.take n)).1:Nat),.int .i64 ((plc (1,1) (l.take n)).2:Nat)])∧w'=w:=by
 go_enter Tryz.func55,Tryz.ntmps55
 go_wp2_with fail
 go_loop [6,7,8] (fun a b i=>∃k:Nat,k≤n∧i=.int .i64 k∧a=.int .i64 ((plc (1,1) (l.take k)).1:Nat)∧b=.int .i64 ((plc (1,1) (l.take k)).2:Nat)) (fun _ _ i=>n - (intOf i).toNat)
 case atStart=>exact ⟨0,by omega,rfl,rfl,rfl⟩
 case round=>
  obtain ⟨k,hk,rfl,rfl,rfl⟩:=hrel
  have hp:=Xub (1,1) (l.take k)
  rw [List.length_take] at hp
  simp only at hp
  by_cases hlt:k < n
  ·have hs:=XqI (1,1) l k (by omega)
   by_cases h10:l[k].toNat=10
   ·rw [if_pos h10] at hs
    have hs1:=Lib.hid (congrArg Prod.fst hs)
    have hs2:=Lib.hid (congrArg Prod.snd hs)
    clear hs
    go_wp2_with fail
    all_goals go_round
    case rel=>exact ⟨k+1,by omega,by go_num,by rw [hs1.out];go_num,by rw [hs2.out];rfl⟩
    case measure=>simp [intOf];omega
   ·rw [if_neg h10] at hs
    have hs1:=Lib.hid (congrArg Prod.fst hs)
    have hs2:=Lib.hid (congrArg Prod.snd hs)
    clear hs
    have hb:((l[k].toNat:Int) == 10)=false:=by rw [XvM];omega
    go_wp2_with fail
    all_goals go_round
    case rel=>exact ⟨k+1,by omega,by go_num,by rw [hs1.out],by rw [hs2.out];go_num⟩
    case measure=>simp [intOf];omega
  ·have:k=n:=by omega
   subst this
   go_wp2_with fail
   go_ret2
   exact ⟨rfl,rfl⟩
theorem Xo4 (l:List UInt8) (w:World) (hl:l.length≤1000000):Calls Tryz.prog 54 #[.string (bs l)] w fun e w'=>e=.returned (.int .i64 (skp l:Nat))∧w'=w:=by
 go_enter Tryz.func54,Tryz.ntmps54
 go_wp2_with fail
 go_loop [3] (fun i=>∃k:Nat,k≤l.length∧i=.int .i64 k∧Hid (skp l=k+skp (l.drop k))) (fun i=>l.length - (intOf i).toNat)
 case atStart=>exact ⟨0,by omega,rfl,Lib.hid (by simp)⟩
 case round=>
  obtain ⟨k,hk,rfl,hS⟩:=hrel
  by_cases hlt:k < l.length
  ·have hd:=Lib.hid (Xcw hlt)
   by_cases h1:l[k].toNat=32∨l[k].toNat=9∨l[k].toNat=10∨l[k].toNat=13
   ·have hS2:Hid (skp l=(k+1:Nat)+skp (l.drop (k+1))):=Lib.hid (by rw [hS.out,hd.out,Xe5 _ _ h1];omega)
    clear hS hd
    go_wp2_with fail
    all_goals first|(go_round;(case rel=>exact ⟨k+1,by omega,by go_num,hS2⟩);(case measure=>simp [intOf];omega))|(exfalso;(try simp only [beq_iff_eq,bne_iff_ne,XvM,ne_eq,Bool.not_eq_true,decide_eq_true_eq,decide_eq_false_iff_not,Bool.or_eq_true,Bool.or_eq_false_iff,Bool.and_eq_true,Bool.and_eq_false_iff,bne_eq_false_iff_eq,Bool.not_eq_true',Bool.not_eq_false'] at *);omega)|fail
   ·by_cases h2:l[k].toNat=35
    ·have hS2:Hid (skp l=k+cmt (l.drop k)+skp (l.drop (k+cmt (l.drop k)))):=Lib.hid (by
      rw [hS.out,hd.out,XkQ _ _ h2,←hd.out,List.drop_drop];omega)
     clear hS hd
     have b1:((l[k].toNat:Int) == 32)=false:=by rw [XvM];omega
     have b2:((l[k].toNat:Int) == 9)=false:=by rw [XvM];omega
     have b3:((l[k].toNat:Int) == 10)=false:=by rw [XvM];omega
     have b4:((l[k].toNat:Int) == 13)=false:=by rw [XvM];omega
     go_wp2_with fail
     go_loop [3] (fun i=>∃j:Nat,k≤j∧j≤l.length∧i=.int .i64 j∧Hid (skp l=j+cmt (l.drop j)+skp (l.drop (j+cmt (l.drop j))))∧(j=k→l[k].toNat=35)) (fun i=>l.length - (intOf i).toNat)
     case atStart=>exact ⟨k,by omega,hk,rfl,hS2,fun _=>h2⟩
     case round=>
      obtain ⟨j,hkj,hj,rfl,hJ,hj0⟩:=hrel
      by_cases hlj:j < l.length
      ·have hd:=Lib.hid (Xcw hlj)
       by_cases h10:l[j].toNat=10
       ·have hne:k < j:=by
         rcases Nat.lt_or_ge k j with h|h
         ·exact h
         ·have:j=k:=by omega
          subst this;omega
        have hJ2:Hid (skp l=j+skp (l.drop j)):=Lib.hid (by
         have:=hJ.out
         rw [hd.out,XnE _ _ h10,Nat.add_zero,hd.out] at this
         rw [this,hd.out])
        clear hS2 hJ hd
        have c1:((l[j].toNat:Int) != 10)=false:=by rw [bne_eq_false_iff_eq];omega
        go_wp2_with fail
        go_round
        case rel=>exact ⟨j,hj,rfl,hJ2⟩
        case measure=>simp [intOf];omega
       ·have hJ2:Hid (skp l=(j+1:Nat)+cmt (l.drop (j+1))+skp (l.drop ((j+1:Nat)+cmt (l.drop (j+1))))):=Lib.hid (by
         have:=hJ.out
         rw [hd.out,Xfg _ _ h10] at this
         rw [this]
         have e:j+(cmt (l.drop (j+1))+1)=j+1+cmt (l.drop (j+1)):=by omega
         rw [e])
        clear hS2 hJ hd
        have c1:((l[j].toNat:Int) != 10)=true:=by rw [bne_iff_ne];omega
        go_wp2_with fail
        go_round
        case rel=>exact ⟨j+1,by omega,by omega,by go_num,hJ2,by omega⟩
        case measure=>simp [intOf];omega
      ·have hne:k < j:=by omega
       have hJ2:Hid (skp l=j+skp (l.drop j)):=Lib.hid (by
        have:=hJ.out
        rw [List.drop_eq_nil_of_le (show l.length≤j by omega)] at *
        simpa [cmt,List.drop_eq_nil_of_le (show l.length≤j by omega)] using this)
       clear hS2 hJ
       go_wp2_with fail
       go_round
       case rel=>exact ⟨j,hj,rfl,hJ2⟩
       case measure=>simp [intOf];omega
    ·have hS2:Hid (skp l=k):=Lib.hid (by rw [hS.out,hd.out,XlH _ _ h1 h2];omega)
     clear hS hd
     have b1:((l[k].toNat:Int) == 32)=false:=by rw [XvM];omega
     have b2:((l[k].toNat:Int) == 9)=false:=by rw [XvM];omega
     have b3:((l[k].toNat:Int) == 10)=false:=by rw [XvM];omega
     have b4:((l[k].toNat:Int) == 13)=false:=by rw [XvM];omega
     have b5:((l[k].toNat:Int) == 35)=false:=by rw [XvM];omega
     go_wp2_with fail
     go_ret
     exact ⟨Xex (by rw [hS2.out]),rfl⟩
  ·have hS2:Hid (skp l=k):=Lib.hid (by rw [hS.out,List.drop_eq_nil_of_le (by omega),XgJ];omega)
   clear hS
   go_wp2_with fail
   go_ret
   exact ⟨Xex (by rw [hS2.out]),rfl⟩
def wrd (word:Bool) (b:UInt8):Bool:=bif word then Xcq b else Xbi b
theorem Xjw (l:List UInt8) (word:Bool) (w:World) (hl:l.length≤1000000):Calls Tryz.prog 92 #[.string (bs l),.bool word] w fun e w'=>e=.returned (.int .i64 (spn (wrd word) l:Nat))∧w'=w:=by
 go_enter Tryz.func92,Tryz.ntmps92
 go_wp2_with fail
 go_loop [5] (fun i=>∃k:Nat,k≤l.length∧i=.int .i64 k∧Hid (spn (wrd word) l=k+spn (wrd word) (l.drop k))) (fun i=>l.length - (intOf i).toNat)
 case atStart=>exact ⟨0,by omega,rfl,Lib.hid (by simp)⟩
 case round=>
  obtain ⟨k,hk,rfl,hS⟩:=hrel
  by_cases hlt:k < l.length
  ·have hd:=Lib.hid (Xcw hlt)
   cases hp:wrd word l[k] with
   | true=>
     have hS2:Hid (spn (wrd word) l=(k+1:Nat)+spn (wrd word) (l.drop (k+1))):=Lib.hid (by rw [hS.out,hd.out,XeA _ _ _ hp];omega)
     clear hS hd
     cases hg:Xbi l[k] with
     | true=>
       go_wp2_with fail
       refine Calls.mono (Xbw l[k] _) ?_
       rintro e w1 ⟨rfl,rfl⟩
       rw [hg]
       go_wp2_with fail
       go_round
       (case rel=>exact ⟨k+1,by omega,by go_num,hS2⟩)
       (case measure=>simp [intOf];omega)
     | false=>
       cases word with
       | false=>simp [wrd,hg] at hp
       | true=>
         cases hlt2:Xb6 l[k] with
         | true=>
           go_wp2_with fail
           refine Calls.mono (Xbw l[k] _) ?_
           rintro e w1 ⟨rfl,rfl⟩
           rw [hg]
           go_wp2_with fail
           refine Calls.mono (Xbx l[k] _) ?_
           rintro e w1 ⟨rfl,rfl⟩
           rw [hlt2]
           go_wp2_with fail
           go_round
           (case rel=>exact ⟨k+1,by omega,by go_num,hS2⟩)
           (case measure=>simp [intOf];omega)
         | false=>
           have h45:l[k].toNat=45:=by
            simp only [wrd,cond_true,Xcq,Bool.or_eq_true,hg,hlt2,decide_eq_true_eq,Bool.false_eq_true,false_or] at hp
            exact hp
           have b1:((l[k].toNat:Int) == 45)=true:=by rw [beq_iff_eq];omega
           clear h45 hp
           go_wp2_with fail
           refine Calls.mono (Xbw l[k] _) ?_
           rintro e w1 ⟨rfl,rfl⟩
           rw [hg]
           go_wp2_with fail
           refine Calls.mono (Xbx l[k] _) ?_
           rintro e w1 ⟨rfl,rfl⟩
           rw [hlt2]
           go_wp2_with fail
           go_round
           (case rel=>exact ⟨k+1,by omega,by go_num,hS2⟩)
           (case measure=>simp [intOf];omega)
   | false=>
     have hS2:Hid (spn (wrd word) l=k):=Lib.hid (by rw [hS.out,hd.out,XlJ _ _ _ hp];omega)
     clear hS hd
     cases word with
     | false=>
       have hg:Xbi l[k]=false:=hp
       go_wp2_with fail
       refine Calls.mono (Xbw l[k] _) ?_
       rintro e w1 ⟨rfl,rfl⟩
       rw [hg]
       go_wp2_with fail
       go_ret
       exact ⟨Xex (by rw [hS2.out]),rfl⟩
     | true=>
       have hp':=hp
       simp only [wrd,cond_true,Xcq,Bool.or_eq_false_iff,decide_eq_false_iff_not] at hp'
       obtain ⟨hg,hlt2,h45⟩:=hp'
       have b1:((l[k].toNat:Int) == 45)=false:=by rw [XvM];omega
       go_wp2_with fail
       refine Calls.mono (Xbw l[k] _) ?_
       rintro e w1 ⟨rfl,rfl⟩
       rw [hg]
       go_wp2_with fail
       refine Calls.mono (Xbx l[k] _) ?_
       rintro e w1 ⟨rfl,rfl⟩
       rw [hlt2]
       go_wp2_with fail
       go_ret
       exact ⟨Xex (by rw [hS2.out]),rfl⟩
  ·have hS2:Hid (spn (wrd word) l=k):=Lib.hid (by rw [hS.out,List.drop_eq_nil_of_le (by omega),Xta];omega)
   clear hS
   go_wp2_with fail
   go_ret
   exact ⟨Xex (by rw [hS2.out]),rfl⟩
def XmY (x:Option (List UInt8 × Nat)):Value:=match x with|none=>.tuple #[.string (bs []),.int .i64 (-1)]|some x=>.tuple #[.string (bs x.1),.int .i64 (x.2:Nat)]
theorem XkM (l:List UInt8) (w:World) (hl:l.length≤1000000):Calls Tryz.prog 94 #[.string (bs l)] w fun e w'=>e=.returned (XmY (quo l))∧Ext w w':=by
 go_enter Tryz.func94,Tryz.ntmps94
 go_wp2_with fail
 go_loopw [4,5] (fun o i wr=>∃(k:Nat) (out:List UInt8) (ad:Option Addr) (cap:Nat),k≤l.length∧i=.int .i64 k∧o=.slice ad out.length cap∧Ob w.heap.size 5 wr o out∧Ext w wr∧out.length≤k∧Hid (quo l=(quo (l.drop k)).map fun x=>(out++x.1,k+x.2))) (fun _ i _=>l.length - (intOf i).toNat)
 case atStart=>exact ⟨0,[],none,0,Nat.zero_le _,rfl,rfl,Ob.nil _ _ _,Below.refl _ _,Nat.le_refl _,Lib.hid (by simp)⟩
 case round=>
  obtain ⟨k,out,ad,cap,hk,rfl,rfl,ho,hE,hol,hQ⟩:=hrel
  have cv:=XdE (P:=Tryz.prog) wr _ _ _ _ _ _ Tryz.underlying39 Tryz.underlying5 Tryz.underlying9 ho.bs
  by_cases hlt:k < l.length
  ·have hd:=Lib.hid (Xcw hlt)
   by_cases h34:l[k].toNat=34
   ·have hQ2:Hid (quo l=some (out,k+1)):=Lib.hid (by rw [hQ.out,hd.out,XgE _ _ h34];simp)
    clear hQ hd
    have b1:((l[k].toNat:Int) != 34)=false:=by rw [bne_eq_false_iff_eq];omega
    go_wp2_with fail
    go_ret2
    exact ⟨by rw [hQ2.out];simp [XmY,Xco],hE⟩
   ·have b1:((l[k].toNat:Int) != 34)=true:=by rw [bne_iff_ne];omega
    cases hp:part (l.drop k) with
    | none=>
      have hQ2:Hid (quo l=none):=Lib.hid (by rw [hQ.out,hd.out,Xjp _ _ h34 (by rw [←hd.out];exact hp)];rfl)
      clear hQ hd
      go_wp2_with fail
      refine Calls.mono (Xju (l.drop k) _ (by simp;omega)) ?_
      rintro e w1 ⟨rfl,rfl⟩
      unfold Xie
      rw [hp]
      go_wp2_with fail
      go_ret2
      exact ⟨by rw [hQ2.out];simp [XmY,Xco],hE⟩
    | some x=>
      obtain ⟨b,n⟩:=x
      have hle:=Xid hp
      rw [List.length_drop] at hle
      have hQ2:Hid (quo l=(quo (l.drop (k+n))).map fun x=>((out++[b])++x.1,(k+n)+x.2)):=Lib.hid (by
       rw [hQ.out,hd.out,Xeg _ _ b n h34 (by rw [←hd.out];exact hp),←hd.out,List.drop_drop,Option.map_map]
       congr 1
       funext y
       simp only [Function.comp,List.append_assoc,List.singleton_append,Prod.mk.injEq,true_and]
       omega)
      clear hQ hd
      go_wp2_with fail
      refine Calls.mono (Xju (l.drop k) _ (by simp;omega)) ?_
      rintro e w1 ⟨rfl,rfl⟩
      unfold Xie
      rw [hp]
      clear hp
      go_wp2_with (at_builtin;refine XcJ w _ w.heap.size rfl _ _ 39 rfl 5 elB _ out rfl ho _ _ _ [b] rfl rfl rfl rfl (out++[b]) (out.length+1) rfl (by simp) (by omega) hE rfl ?_)
      intro ad2 cap2 t2 d2 ho2
      go_wp2_with fail
      go_roundw
      case rel=>exact ⟨k+n,out++[b],ad2,cap2,by omega,by go_num,by simp,ho2,Ext.ext _ _ _,by simp;omega,hQ2⟩
      case measure=>simp [intOf];omega
  ·have hQ2:Hid (quo l=none):=Lib.hid (by rw [hQ.out,List.drop_eq_nil_of_le (by omega),Xig];rfl)
   clear hQ
   go_wp2_with fail
   go_ret2
   exact ⟨by rw [hQ2.out];simp [XmY,Xco],hE⟩
theorem Xjv (l:List UInt8) (w:World) (hl:l.length≤1000000):Calls Tryz.prog 95 #[.string (bs l)] w fun e w'=>e=.returned (XmY (sla l))∧Ext w w':=by
 go_enter Tryz.func95,Tryz.ntmps95
 go_wp2_with fail
 go_loopw [4,5] (fun o i wr=>∃(k:Nat) (out:List UInt8) (ad:Option Addr) (cap:Nat),k≤l.length∧i=.int .i64 k∧o=.slice ad out.length cap∧Ob w.heap.size 5 wr o out∧Ext w wr∧out.length≤k∧Hid (sla l=(sla (l.drop k)).map fun x=>(out++x.1,k+x.2))) (fun _ i _=>l.length - (intOf i).toNat)
 case atStart=>exact ⟨0,[],none,0,Nat.zero_le _,rfl,rfl,Ob.nil _ _ _,Below.refl _ _,Nat.le_refl _,Lib.hid (by simp)⟩
 case round=>
  obtain ⟨k,out,ad,cap,hk,rfl,rfl,ho,hE,hol,hQ⟩:=hrel
  have cv:=XdE (P:=Tryz.prog) wr _ _ _ _ _ _ Tryz.underlying39 Tryz.underlying5 Tryz.underlying9 ho.bs
  by_cases hlt:k < l.length
  ·have hd:=Lib.hid (Xcw hlt)
   have hb:=l[k].toNat_lt
   by_cases h47:l[k].toNat=47
   ·have hQ2:Hid (sla l=some (out,k+1)):=Lib.hid (by rw [hQ.out,hd.out,Xfu _ _ h47];simp)
    clear hQ hd
    have b1:((l[k].toNat:Int) != 47)=false:=by rw [bne_eq_false_iff_eq];omega
    go_wp2_with fail
    go_ret2
    exact ⟨by rw [hQ2.out];simp [XmY,Xco],hE⟩
   have b1:((l[k].toNat:Int) != 47)=true:=by rw [bne_iff_ne];omega
   by_cases h32:l[k].toNat < 32
   ·have hQ2:Hid (sla l=none):=Lib.hid (by rw [hQ.out,hd.out,Xil _ _ h32];rfl)
    clear hQ hd
    go_wp2_with fail
    go_ret2
    exact ⟨by rw [hQ2.out];simp [XmY,Xco],hE⟩
   by_cases h92:l[k].toNat=92
   ·have b2:((l[k].toNat:Int) == 92)=true:=by rw [beq_iff_eq];omega
    by_cases hl2:k+1 < l.length
    ·have hd2:=Lib.hid (Xcw hl2)
     have hb2:=l[k+1].toNat_lt
     have y1:((k:Int)+1).toNat=k+1:=by omega
     by_cases d32:l[k+1].toNat < 32
     ·have hQ2:Hid (sla l=none):=Lib.hid (by rw [hQ.out,hd.out,hd2.out,Xf4 _ _ _ h92 d32];rfl)
      clear hQ hd hd2
      go_wp2_with fail
      go_ret2
      exact ⟨by rw [hQ2.out];simp [XmY,Xco],hE⟩
     by_cases d47:l[k+1].toNat=47
     ·have hQ2:Hid (sla l=(sla (l.drop (k+2))).map fun x=>((out++[47])++x.1,(k+2)+x.2)):=Lib.hid (by
       rw [hQ.out,hd.out,hd2.out,XgK _ _ _ h92 d47,Option.map_map]
       have e47:l[k+1]=47:=UInt8.toNat_inj.1 (by simpa using d47)
       rw [e47]
       congr 1
       funext y
       simp only [Function.comp,List.append_assoc,List.singleton_append,Prod.mk.injEq,true_and]
       omega)
      clear hQ hd hd2
      have b3:((l[k+1].toNat:Int) == 47)=true:=by rw [beq_iff_eq];omega
      go_wp2_with (at_builtin;refine XcJ w _ w.heap.size rfl _ _ 39 rfl 5 elB _ out rfl ho _ _ _ [47] rfl rfl rfl rfl (out++[47]) (out.length+1) rfl (by simp) (by omega) hE rfl ?_)
      intro ad2 cap2 t2 d2 ho2
      go_wp2_with fail
      go_roundw
      case rel=>exact ⟨k+2,out++[47],ad2,cap2,by omega,by go_num,by simp,ho2,Ext.ext _ _ _,by simp;omega,hQ2⟩
      case measure=>simp [intOf];omega
     ·have hQ2:Hid (sla l=(sla (l.drop (k+2))).map fun x=>((out++[l[k],l[k+1]])++x.1,(k+2)+x.2)):=Lib.hid (by
       rw [hQ.out,hd.out,hd2.out,XgN _ _ _ h92 (by omega) d47,Option.map_map]
       congr 1
       funext y
       simp only [Function.comp,List.append_assoc,XvG,XvF,Prod.mk.injEq,true_and]
       omega)
      clear hQ hd hd2
      have b3:((l[k+1].toNat:Int) == 47)=false:=by rw [XvM];omega
      go_wp2_with fail
      have g1:(0:Int)≤(k:Int)+1:=by omega
      have g2:(k:Int)+1 < l.length:=by omega
      have x1:IntKind.i64.wrap ((k:Int)+1)=k+1:=IntWalk.i64_in _ (by omega)
      have x2:IntKind.i64.wrap ((k:Int)+2)=k+2:=IntWalk.i64_in _ (by omega)
      go_region_law (refine Xfw w _ w.heap.size rfl (.tmp 71) (.tmp 79) 39 rfl 5 elB (.slice ad out.length cap) out (by simp [Act.eval,Act.put]) (ho.mono (Ext.al _ _)).drew 0 (.slice (some ⟨wr.heap.size,0,none⟩) 2 2) [l[k],l[k+1]] (by simp [Act.eval,Act.put]) (Bs.drew (Bs.block _ 0 _ 2 2 _ _ _ _ rfl (Nat.zero_le _) (by simp [u8s,h92]) rfl (Nat.le_refl _) (by decide))) (out++[l[k],l[k+1]]) (out.length+2) rfl (by simp) (by omega) ((hE.trans ((Below.refl _ _).alloc hE.size _)).drew) rfl ?_;intro ad2 cap2 t2 d2 ho2 hb2)
      all_goals
       go_wp2_with fail
       refine ⟨?_,?measure⟩
       (repeat apply Exists.intro)
       refine ⟨?rel,rfl⟩
       case rel=>exact ⟨k+2,out++[l[k],l[k+1]],ad2,cap2,by omega,by go_num,by simp,ho2,Ext.ext _ _ _,by simp;omega,hQ2⟩
       case measure=>
        change l.length - (intOf (Value.int .i64 ((k:Int)+2))).toNat < l.length - (intOf (Value.int .i64 (k:Int))).toNat
        simp [intOf];omega
    ·have hQ2:Hid (sla l=none):=Lib.hid (by rw [hQ.out,hd.out,List.drop_eq_nil_of_le (by omega),Xf5 _ h92];rfl)
     clear hQ hd
     go_wp2_with fail
     go_ret2
     exact ⟨by rw [hQ2.out];simp [XmY,Xco],hE⟩
   have b2:((l[k].toNat:Int) == 92)=false:=by rw [XvM];omega
   have hQ2:Hid (sla l=(sla (l.drop (k+1))).map fun x=>((out++[l[k]])++x.1,(k+1)+x.2)):=Lib.hid (by
    rw [hQ.out,hd.out,XgL _ _ h47 (by omega) h92,Option.map_map]
    congr 1
    funext y
    simp only [Function.comp,List.append_assoc,List.singleton_append,Prod.mk.injEq,true_and]
    omega)
   clear hQ hd
   go_wp2_with (at_builtin;refine XcJ w _ w.heap.size rfl _ _ 39 rfl 5 elB _ out rfl ho _ _ _ [l[k]] rfl rfl rfl rfl (out++[l[k]]) (out.length+1) rfl (by simp) (by omega) hE rfl ?_)
   intro ad2 cap2 t2 d2 ho2
   go_wp2_with fail
   go_roundw
   case rel=>exact ⟨k+1,out++[l[k]],ad2,cap2,by omega,by go_num,by simp,ho2,Ext.ext _ _ _,by simp;omega,hQ2⟩
   case measure=>simp [intOf];omega
  ·have hQ2:Hid (sla l=none):=Lib.hid (by rw [hQ.out,List.drop_eq_nil_of_le (by omega),Xim];rfl)
   clear hQ
   go_wp2_with fail
   go_ret2
   exact ⟨by rw [hQ2.out];simp [XmY,Xco],hE⟩
theorem Xlr (c:UInt8) (r:List UInt8) (h:Xb6 c=true):one (c :: r)=.ok (1,(c :: r).take (spn Xcq (c :: r)),spn Xcq (c :: r)):=by simp only [one,h,if_true]
theorem Xlq (c:UInt8) (r:List UInt8) (h:Xb6 c=false) (h2:Xbi c=true) (h3:18 < spn Xbi (c :: r)∨1 < spn Xbi (c :: r)∧c.toNat=48):one (c :: r)=.error 53:=by simp only [one,h,h2,if_pos h3,if_true,Bool.false_eq_true,if_false]
theorem XoK (c:UInt8) (r:List UInt8) (h:Xb6 c=false) (h2:Xbi c=true) (h3:¬(18 < spn Xbi (c :: r)∨1 < spn Xbi (c :: r)∧c.toNat=48)):one (c :: r)=.ok (2,(c :: r).take (spn Xbi (c :: r)),spn Xbi (c :: r)):=by simp only [one,h,h2,if_neg h3,if_true,Bool.false_eq_true,if_false]
theorem XkA (c:UInt8) (r:List UInt8) (h:Xb6 c=false) (h2:Xbi c=false) (h3:c.toNat=34):one (c :: r)=match quo r with|none=>.error 51|some x=>.ok (3,x.1,x.2+1):=by simp only [one,h,h2,if_pos h3,Bool.false_eq_true,if_false];first|done|(cases quo r<;>rfl)
theorem Xkz (c:UInt8) (r:List UInt8) (h:Xb6 c=false) (h2:Xbi c=false) (h3:c.toNat=47):one (c :: r)=match sla r with|none=>.error 52|some x=>.ok (4,x.1,x.2+1):=by simp only [one,h,h2,if_neg (show ¬c.toNat=34 by omega),if_pos h3,Bool.false_eq_true,if_false];first|done|(cases sla r<;>rfl)
theorem Xe2 (c:UInt8) (r:List UInt8) (h:Xb6 c=false) (h2:Xbi c=false) (h3:c.toNat=123∨c.toNat=125∨c.toNat=44∨c.toNat=61):one (c :: r)=.ok (5,[c],1):=by simp only [one,h,h2,if_neg (show ¬c.toNat=34 by omega),if_neg (show ¬c.toNat=47 by omega),if_pos h3,Bool.false_eq_true,if_false]
theorem XoH (c:UInt8) (r:List UInt8) (h:Xb6 c=false) (h2:Xbi c=false) (h3:c.toNat≠34) (h4:c.toNat≠47) (h5:¬(c.toNat=123∨c.toNat=125∨c.toNat=44∨c.toNat=61)):one (c :: r)=.error 50:=by simp only [one,h,h2,if_neg h3,if_neg h4,if_neg h5,Bool.false_eq_true,if_false]
def Xf2 (x:Except Int (Int × List UInt8 × Nat)):Value:=match x with
 | .error e=>.tuple #[.int .i64 0,.string (bs []),.int .i64 0,.int .i64 e]
 | .ok x=>.tuple #[.int .i64 x.1,.string (bs x.2.1),.int .i64 (x.2.2:Nat),.int .i64 0]
theorem Xo3 (c:UInt8) (r:List UInt8) (w:World) (hl:r.length≤999999) (h:Xb6 c=true):Calls Tryz.prog 56 #[.string (bs (c :: r))] w fun e w'=>e=.returned (Xf2 (one (c :: r)))∧Ext w w':=by
 rw [Xlr c r h]
 have hle:=XhC Xcq (c :: r)
 rw [Xvy] at hle
 have hs:=Xjw (c :: r) true w (by simp;omega)
 rw [show wrd true=Xcq from rfl] at hs
 generalize spn Xcq (c :: r)=n at hle hs ⊢
 go_enter Tryz.func56,Tryz.ntmps56
 go_wp2_with fail
 refine Calls.mono (Xbx c _) ?_
 rintro e w1 ⟨rfl,rfl⟩
 rw [h]
 go_wp2_with fail
 refine Calls.mono hs ?_
 rintro e w1 ⟨rfl,rfl⟩
 go_wp2_with fail
 go_quiet (fail)
 go_wp2_with fail
 refine bodyPost_ret (by simp [results,Tryz.results56,go_sem];try rfl) rfl ?_
 exact ⟨rfl,(by repeat (first|(with_reducible exact Below.refl _ _)|(with_reducible assumption)|(with_reducible refine Below.ext ?_ (by first|omega|(simp;done)|(simp;omega)) _ _)|(with_reducible refine Below.alloc ?_ (by first|omega|(simp;done)|(simp;omega)) _)|(with_reducible refine Below.setCell ?_ (by first|omega|(simp;done)|(simp;omega)) _)|(with_reducible refine Below.drew ?_)|(with_reducible refine Below.drewN ?_ _)))⟩
end Go.Proofs.YtdpobjakdplljaaGreatDoor
