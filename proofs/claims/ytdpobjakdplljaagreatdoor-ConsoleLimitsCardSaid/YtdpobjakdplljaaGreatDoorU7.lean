import Derived.Test.YtdpobjakdplljaaGreatDoorU6
/- Of the tokens of a text: laws. No program in sight. -/
set_option linter.unusedSimpArgs false
set_option linter.unusedVariables false
set_option maxRecDepth 100000
set_option maxHeartbeats 8000000
namespace Go.Proofs.YtdpobjakdplljaaGreatDoor
open Go.RowKit
theorem Xoq (p:UInt8→Bool):spn p []=0:=rfl
theorem XdG (p:UInt8→Bool) (c:UInt8) (r:List UInt8) (h:p c=true):spn p (c :: r)=spn p r+1:=by simp [spn,List.takeWhile_cons,h]
theorem XiP (p:UInt8→Bool) (c:UInt8) (r:List UInt8) (h:p c=false):spn p (c :: r)=0:=by simp [spn,List.takeWhile_cons,h]
theorem XfT (p:UInt8→Bool) (l:List UInt8):spn p l≤l.length:=(List.takeWhile_prefix p).length_le
theorem Xgi:quo []=none:=by rw [quo]
theorem Xfb (c:UInt8) (r:List UInt8) (h:c.toNat=34):quo (c :: r)=some ([],1):=by rw [quo,if_pos h]
theorem Xg3 (c:UInt8) (r:List UInt8) (h:c.toNat≠34) (h2:part (c :: r)=none):quo (c :: r)=none:=by rw [quo,if_neg h,h2]
theorem Xdq (c:UInt8) (r:List UInt8) (b:UInt8) (n:Nat) (h:c.toNat≠34) (h2:part (c :: r)=some (b,n)):quo (c :: r)=(quo ((c :: r).drop n)).map fun y=>(b :: y.1,n+y.2):=by
 rw [quo,if_neg h,h2];simp only [];rw [show max n 1=n from by have:=Xgf h2;omega]
theorem Xlb (l:List UInt8):∀x,quo l=some x→1≤x.2∧x.2≤l.length∧x.1.length < x.2:=by
 match h:l with
 | []=>intro x hx;rw [Xgi] at hx;cases hx
 | c :: r=>
   intro x hx
   by_cases h1:c.toNat=34
   ·rw [Xfb c r h1] at hx;cases hx;simp
   ·cases hp:part (c :: r) with
    | none=>rw [Xg3 c r h1 hp] at hx;cases hx
    | some y=>
      obtain ⟨b,n⟩:=y
      have hle:=Xgf hp
      rw [Xdq c r b n h1 hp] at hx
      cases hq:quo ((c :: r).drop n) with
      | none=>rw [hq] at hx;cases hx
      | some z=>
        have:=Xlb ((c :: r).drop n) z hq
        rw [hq] at hx;cases hx
        simp only [List.length_drop,Xqy] at *;omega
termination_by l.length
decreasing_by subst h;simp;omega
theorem Xgo:sla []=none:=by rw [sla]
theorem Xgm (c:UInt8) (r:List UInt8) (h:c.toNat=47):sla (c :: r)=some ([],1):=by rw [sla.eq_def];simp only [if_pos h]
theorem Xgl (c:UInt8) (r:List UInt8) (h:c.toNat < 32):sla (c :: r)=none:=by rw [sla.eq_def];simp only [if_neg (show ¬c.toNat=47 by omega),if_pos h]
theorem XeH (c:UInt8) (h:c.toNat=92):sla [c]=none:=by rw [sla,if_neg (by omega),if_neg (by omega),if_pos h]
theorem XeG (c d:UInt8) (r:List UInt8) (h:c.toNat=92) (h2:d.toNat < 32):sla (c :: d :: r)=none:=by rw [sla,if_neg (by omega),if_neg (by omega),if_pos h];simp only [if_pos h2]
theorem Xgn (c d:UInt8) (r:List UInt8) (h:c.toNat=92) (h2:d.toNat=47):sla (c :: d :: r)=(sla r).map fun x=>(d :: x.1,2+x.2):=by
 rw [sla,if_neg (by omega),if_neg (by omega),if_pos h];simp only [if_neg (show ¬d.toNat < 32 by omega),if_pos h2]
theorem Xgq (c d:UInt8) (r:List UInt8) (h:c.toNat=92) (h2:32≤d.toNat) (h3:d.toNat≠47):sla (c :: d :: r)=(sla r).map fun x=>(c :: d :: x.1,2+x.2):=by
 rw [sla,if_neg (by omega),if_neg (by omega),if_pos h];simp only [if_neg (show ¬d.toNat < 32 by omega),if_neg h3]
theorem Xgp (c:UInt8) (r:List UInt8) (h:c.toNat≠47) (h2:32≤c.toNat) (h3:c.toNat≠92):sla (c :: r)=(sla r).map fun x=>(c :: x.1,1+x.2):=by
 rw [sla.eq_def];simp only [if_neg h,if_neg (show ¬c.toNat < 32 by omega),if_neg h3]
theorem Xhc (l:List UInt8):∀x,sla l=some x→1≤x.2∧x.2≤l.length∧x.1.length < x.2:=by
 match h:l with
 | []=>intro x hx;rw [Xgo] at hx;cases hx
 | c :: r=>
   intro x hx
   by_cases h1:c.toNat=47
   ·rw [Xgm c r h1] at hx;cases hx;simp
   by_cases h2:c.toNat < 32
   ·rw [Xgl c r h2] at hx;cases hx
   by_cases h3:c.toNat=92
   ·match r,hx with
    | [],hx=>rw [XeH c h3] at hx;cases hx
    | d :: r,hx=>
      by_cases h4:d.toNat < 32
      ·rw [XeG c d r h3 h4] at hx;cases hx
      by_cases h5:d.toNat=47
      ·rw [Xgn c d r h3 h5] at hx
       cases hq:sla r with
       | none=>rw [hq] at hx;cases hx
       | some z=>have:=Xhc r z hq;rw [hq] at hx;cases hx;simp only [Xqy];omega
      ·rw [Xgq c d r h3 (by omega) h5] at hx
       cases hq:sla r with
       | none=>rw [hq] at hx;cases hx
       | some z=>have:=Xhc r z hq;rw [hq] at hx;cases hx;simp only [Xqy];omega
   ·rw [Xgp c r h1 (by omega) h3] at hx
    cases hq:sla r with
    | none=>rw [hq] at hx;cases hx
    | some z=>have:=Xhc r z hq;rw [hq] at hx;cases hx;simp only [Xqy];omega
termination_by l.length
decreasing_by
 all_goals subst h;simp;try omega
def wrd (word:Bool) (b:UInt8):Bool:=bif word then Xb6 b else Xa0 b
theorem Xg8 (l:List UInt8) (word:Bool) (w:World) (hl:l.length≤1000000):Calls Tryz.prog 92 #[.string (bs l),.bool word] w fun e w'=>e=.returned (.int .i64 (spn (wrd word) l:Nat))∧w'=w:=by
 go_enter Tryz.func92,Tryz.ntmps92
 go_wp2_with fail
 go_loop [5] (fun i=>∃k:Nat,k≤l.length∧i=.int .i64 k∧Hid (spn (wrd word) l=k+spn (wrd word) (l.drop k))) (fun i=>l.length - (intOf i).toNat)
 case atStart=>exact ⟨0,by omega,rfl,Lib.hid (by simp)⟩
 case round=>
  obtain ⟨k,hk,rfl,hS⟩:=hrel
  by_cases hlt:k < l.length
  ·have hd:=Lib.hid (Xch hlt)
   cases hp:wrd word l[k] with
   | true=>
     have hS2:Hid (spn (wrd word) l=(k+1:Nat)+spn (wrd word) (l.drop (k+1))):=Lib.hid (by rw [hS.out,hd.out,XdG _ _ _ hp];omega)
     clear hS hd
     cases hg:Xa0 l[k] with
     | true=>
       go_wp2_with fail
       refine Calls.mono (Xbd l[k] _) ?_
       rintro e w1 ⟨rfl,rfl⟩
       rw [hg]
       go_wp2_with fail
       go_round
       (case rel=>exact ⟨k+1,by omega,by go_num,hS2⟩)
       (case measure=>simp [intOf];omega)
     | false=>
       cases word with
       | false=>simp [wrd,hg] at hp
       | true=>
         cases hlt2:XbS l[k] with
         | true=>
           go_wp2_with fail
           refine Calls.mono (Xbd l[k] _) ?_
           rintro e w1 ⟨rfl,rfl⟩
           rw [hg]
           go_wp2_with fail
           refine Calls.mono (Xbe l[k] _) ?_
           rintro e w1 ⟨rfl,rfl⟩
           rw [hlt2]
           go_wp2_with fail
           go_round
           (case rel=>exact ⟨k+1,by omega,by go_num,hS2⟩)
           (case measure=>simp [intOf];omega)
         | false=>
           have h45:l[k].toNat=45:=by
            simp only [wrd,cond_true,Xb6,Bool.or_eq_true,hg,hlt2,decide_eq_true_eq,Bool.false_eq_true,false_or] at hp
            exact hp
           have b1:((l[k].toNat:Int) == 45)=true:=by rw [beq_iff_eq];omega
           clear h45 hp
           go_wp2_with fail
           refine Calls.mono (Xbd l[k] _) ?_
           rintro e w1 ⟨rfl,rfl⟩
           rw [hg]
           go_wp2_with fail
           refine Calls.mono (Xbe l[k] _) ?_
           rintro e w1 ⟨rfl,rfl⟩
           rw [hlt2]
           go_wp2_with fail
           go_round
           (case rel=>exact ⟨k+1,by omega,by go_num,hS2⟩)
           (case measure=>simp [intOf];omega)
   | false=>
     have hS2:Hid (spn (wrd word) l=k):=Lib.hid (by rw [hS.out,hd.out,XiP _ _ _ hp];omega)
     clear hS hd
     cases word with
     | false=>
       have hg:Xa0 l[k]=false:=hp
       go_wp2_with fail
       refine Calls.mono (Xbd l[k] _) ?_
       rintro e w1 ⟨rfl,rfl⟩
       rw [hg]
       go_wp2_with fail
       go_ret
       exact ⟨XdE (by rw [hS2.out]),rfl⟩
     | true=>
       have hp':=hp
       simp only [wrd,cond_true,Xb6,Bool.or_eq_false_iff,decide_eq_false_iff_not] at hp'
       obtain ⟨hg,hlt2,h45⟩:=hp'
       have b1:((l[k].toNat:Int) == 45)=false:=by rw [XqM];omega
       go_wp2_with fail
       refine Calls.mono (Xbd l[k] _) ?_
       rintro e w1 ⟨rfl,rfl⟩
       rw [hg]
       go_wp2_with fail
       refine Calls.mono (Xbe l[k] _) ?_
       rintro e w1 ⟨rfl,rfl⟩
       rw [hlt2]
       go_wp2_with fail
       go_ret
       exact ⟨XdE (by rw [hS2.out]),rfl⟩
  ·have hS2:Hid (spn (wrd word) l=k):=Lib.hid (by rw [hS.out,List.drop_eq_nil_of_le (by omega),Xoq];omega)
   clear hS
   go_wp2_with fail
   go_ret
   exact ⟨XdE (by rw [hS2.out]),rfl⟩
def XjE (x:Option (List UInt8 × Nat)):Value:=match x with|none=>.tuple #[.string (bs []),.int .i64 (-1)]|some x=>.tuple #[.string (bs x.1),.int .i64 (x.2:Nat)]
theorem Xh9 (l:List UInt8) (w:World) (hl:l.length≤1000000):Calls Tryz.prog 94 #[.string (bs l)] w fun e w'=>e=.returned (XjE (quo l))∧Ext w w':=by
 go_enter Tryz.func94,Tryz.ntmps94
 go_wp2_with fail
 go_loopw [4,5] (fun o i wr=>∃(k:Nat) (out:List UInt8) (ad:Option Addr) (cap:Nat),k≤l.length∧i=.int .i64 k∧o=.slice ad out.length cap∧Ob w.heap.size 5 wr o out∧Ext w wr∧out.length≤k∧Hid (quo l=(quo (l.drop k)).map fun x=>(out++x.1,k+x.2))) (fun _ i _=>l.length - (intOf i).toNat)
 case atStart=>exact ⟨0,[],none,0,Nat.zero_le _,rfl,rfl,Ob.nil _ _ _,Below.refl _ _,Nat.le_refl _,Lib.hid (by simp)⟩
 case round=>
  obtain ⟨k,out,ad,cap,hk,rfl,rfl,ho,hE,hol,hQ⟩:=hrel
  have cv:=Xc6 (P:=Tryz.prog) wr _ _ _ _ _ _ Tryz.underlying39 Tryz.underlying5 Tryz.underlying9 ho.bs
  by_cases hlt:k < l.length
  ·have hd:=Lib.hid (Xch hlt)
   by_cases h34:l[k].toNat=34
   ·have hQ2:Hid (quo l=some (out,k+1)):=Lib.hid (by rw [hQ.out,hd.out,Xfb _ _ h34];simp)
    clear hQ hd
    have b1:((l[k].toNat:Int) != 34)=false:=by rw [bne_eq_false_iff_eq];omega
    go_wp2_with fail
    go_ret2
    exact ⟨by rw [hQ2.out];simp [XjE,Xcb],hE⟩
   ·have b1:((l[k].toNat:Int) != 34)=true:=by rw [bne_iff_ne];omega
    cases hp:part (l.drop k) with
    | none=>
      have hQ2:Hid (quo l=none):=Lib.hid (by rw [hQ.out,hd.out,Xg3 _ _ h34 (by rw [←hd.out];exact hp)];rfl)
      clear hQ hd
      go_wp2_with fail
      refine Calls.mono (Xg6 (l.drop k) _ (by simp;omega)) ?_
      rintro e w1 ⟨rfl,rfl⟩
      unfold Xgg
      rw [hp]
      go_wp2_with fail
      go_ret2
      exact ⟨by rw [hQ2.out];simp [XjE,Xcb],hE⟩
    | some x=>
      obtain ⟨b,n⟩:=x
      have hle:=Xgf hp
      rw [List.length_drop] at hle
      have hQ2:Hid (quo l=(quo (l.drop (k+n))).map fun x=>((out++[b])++x.1,(k+n)+x.2)):=Lib.hid (by
       rw [hQ.out,hd.out,Xdq _ _ b n h34 (by rw [←hd.out];exact hp),←hd.out,List.drop_drop,Option.map_map]
       congr 1
       funext y
       simp only [Function.comp,List.append_assoc,List.singleton_append,Prod.mk.injEq,true_and]
       omega)
      clear hQ hd
      go_wp2_with fail
      refine Calls.mono (Xg6 (l.drop k) _ (by simp;omega)) ?_
      rintro e w1 ⟨rfl,rfl⟩
      unfold Xgg
      rw [hp]
      clear hp
      go_wp2_with (at_builtin;refine Xco w _ w.heap.size rfl _ _ 39 rfl 5 elB _ out rfl ho _ _ _ [b] rfl rfl rfl rfl (out++[b]) (out.length+1) rfl (by simp) (by omega) hE rfl ?_)
      intro ad2 cap2 t2 d2 ho2
      go_wp2_with fail
      go_roundw
      case rel=>exact ⟨k+n,out++[b],ad2,cap2,by omega,by go_num,by simp,ho2,Ext.ext _ _ _,by simp;omega,hQ2⟩
      case measure=>simp [intOf];omega
  ·have hQ2:Hid (quo l=none):=Lib.hid (by rw [hQ.out,List.drop_eq_nil_of_le (by omega),Xgi];rfl)
   clear hQ
   go_wp2_with fail
   go_ret2
   exact ⟨by rw [hQ2.out];simp [XjE,Xcb],hE⟩
theorem Xg7 (l:List UInt8) (w:World) (hl:l.length≤1000000):Calls Tryz.prog 95 #[.string (bs l)] w fun e w'=>e=.returned (XjE (sla l))∧Ext w w':=by
 go_enter Tryz.func95,Tryz.ntmps95
 go_wp2_with fail
 go_loopw [4,5] (fun o i wr=>∃(k:Nat) (out:List UInt8) (ad:Option Addr) (cap:Nat),k≤l.length∧i=.int .i64 k∧o=.slice ad out.length cap∧Ob w.heap.size 5 wr o out∧Ext w wr∧out.length≤k∧Hid (sla l=(sla (l.drop k)).map fun x=>(out++x.1,k+x.2))) (fun _ i _=>l.length - (intOf i).toNat)
 case atStart=>exact ⟨0,[],none,0,Nat.zero_le _,rfl,rfl,Ob.nil _ _ _,Below.refl _ _,Nat.le_refl _,Lib.hid (by simp)⟩
 case round=>
  obtain ⟨k,out,ad,cap,hk,rfl,rfl,ho,hE,hol,hQ⟩:=hrel
  have cv:=Xc6 (P:=Tryz.prog) wr _ _ _ _ _ _ Tryz.underlying39 Tryz.underlying5 Tryz.underlying9 ho.bs
  by_cases hlt:k < l.length
  ·have hd:=Lib.hid (Xch hlt)
   have hb:=l[k].toNat_lt
   by_cases h47:l[k].toNat=47
   ·have hQ2:Hid (sla l=some (out,k+1)):=Lib.hid (by rw [hQ.out,hd.out,Xgm _ _ h47];simp)
    clear hQ hd
    have b1:((l[k].toNat:Int) != 47)=false:=by rw [bne_eq_false_iff_eq];omega
    go_wp2_with fail
    go_ret2
    exact ⟨by rw [hQ2.out];simp [XjE,Xcb],hE⟩
   have b1:((l[k].toNat:Int) != 47)=true:=by rw [bne_iff_ne];omega
   by_cases h32:l[k].toNat < 32
   ·have hQ2:Hid (sla l=none):=Lib.hid (by rw [hQ.out,hd.out,Xgl _ _ h32];rfl)
    clear hQ hd
    go_wp2_with fail
    go_ret2
    exact ⟨by rw [hQ2.out];simp [XjE,Xcb],hE⟩
   by_cases h92:l[k].toNat=92
   ·have b2:((l[k].toNat:Int) == 92)=true:=by rw [beq_iff_eq];omega
    by_cases hl2:k+1 < l.length
    ·have hd2:=Lib.hid (Xch hl2)
     have hb2:=l[k+1].toNat_lt
     have y1:((k:Int)+1).toNat=k+1:=by omega
     by_cases d32:l[k+1].toNat < 32
     ·have hQ2:Hid (sla l=none):=Lib.hid (by rw [hQ.out,hd.out,hd2.out,XeG _ _ _ h92 d32];rfl)
      clear hQ hd hd2
      go_wp2_with fail
      go_ret2
      exact ⟨by rw [hQ2.out];simp [XjE,Xcb],hE⟩
     by_cases d47:l[k+1].toNat=47
     ·have hQ2:Hid (sla l=(sla (l.drop (k+2))).map fun x=>((out++[47])++x.1,(k+2)+x.2)):=Lib.hid (by
       rw [hQ.out,hd.out,hd2.out,Xgn _ _ _ h92 d47,Option.map_map]
       have e47:l[k+1]=47:=UInt8.toNat_inj.1 (by simpa using d47)
       rw [e47]
       congr 1
       funext y
       simp only [Function.comp,List.append_assoc,List.singleton_append,Prod.mk.injEq,true_and]
       omega)
      clear hQ hd hd2
      have b3:((l[k+1].toNat:Int) == 47)=true:=by rw [beq_iff_eq];omega
      go_wp2_with (at_builtin;refine Xco w _ w.heap.size rfl _ _ 39 rfl 5 elB _ out rfl ho _ _ _ [47] rfl rfl rfl rfl (out++[47]) (out.length+1) rfl (by simp) (by omega) hE rfl ?_)
      intro ad2 cap2 t2 d2 ho2
      go_wp2_with fail
      go_roundw
      case rel=>exact ⟨k+2,out++[47],ad2,cap2,by omega,by go_num,by simp,ho2,Ext.ext _ _ _,by simp;omega,hQ2⟩
      case measure=>simp [intOf];omega
     ·have hQ2:Hid (sla l=(sla (l.drop (k+2))).map fun x=>((out++[l[k],l[k+1]])++x.1,(k+2)+x.2)):=Lib.hid (by
       rw [hQ.out,hd.out,hd2.out,Xgq _ _ _ h92 (by omega) d47,Option.map_map]
       congr 1
       funext y
       simp only [Function.comp,List.append_assoc,XqG,XqF,Prod.mk.injEq,true_and]
       omega)
      clear hQ hd hd2
      have b3:((l[k+1].toNat:Int) == 47)=false:=by rw [XqM];omega
      go_wp2_with fail
      have g1:(0:Int)≤(k:Int)+1:=by omega
      have g2:(k:Int)+1 < l.length:=by omega
      have x1:IntKind.i64.wrap ((k:Int)+1)=k+1:=IntWalk.i64_in _ (by omega)
      have x2:IntKind.i64.wrap ((k:Int)+2)=k+2:=IntWalk.i64_in _ (by omega)
      go_region_law (refine Xeh w _ w.heap.size rfl (.tmp 71) (.tmp 79) 39 rfl 5 elB (.slice ad out.length cap) out (by simp [Act.eval,Act.put]) (ho.mono (Ext.al _ _)).drew 0 (.slice (some ⟨wr.heap.size,0,none⟩) 2 2) [l[k],l[k+1]] (by simp [Act.eval,Act.put]) (Bs.drew (Bs.block _ 0 _ 2 2 _ _ _ _ rfl (Nat.zero_le _) (by simp [u8s,h92]) rfl (Nat.le_refl _) (by decide))) (out++[l[k],l[k+1]]) (out.length+2) rfl (by simp) (by omega) ((hE.trans ((Below.refl _ _).alloc hE.size _)).drew) rfl ?_;intro ad2 cap2 t2 d2 ho2 hb2)
      all_goals
       go_wp2_with fail
       refine ⟨?_,?measure⟩
       (repeat apply Exists.intro)
       refine ⟨?rel,rfl⟩
       case rel=>exact ⟨k+2,out++[l[k],l[k+1]],ad2,cap2,by omega,by go_num,by simp,ho2,Ext.ext _ _ _,by simp;omega,hQ2⟩
       case measure=>
        change l.length - (intOf (Value.int .i64 ((k:Int)+2))).toNat < l.length - (intOf (Value.int .i64 (k:Int))).toNat
        simp [intOf];omega
    ·have hQ2:Hid (sla l=none):=Lib.hid (by rw [hQ.out,hd.out,List.drop_eq_nil_of_le (by omega),XeH _ h92];rfl)
     clear hQ hd
     go_wp2_with fail
     go_ret2
     exact ⟨by rw [hQ2.out];simp [XjE,Xcb],hE⟩
   have b2:((l[k].toNat:Int) == 92)=false:=by rw [XqM];omega
   have hQ2:Hid (sla l=(sla (l.drop (k+1))).map fun x=>((out++[l[k]])++x.1,(k+1)+x.2)):=Lib.hid (by
    rw [hQ.out,hd.out,Xgp _ _ h47 (by omega) h92,Option.map_map]
    congr 1
    funext y
    simp only [Function.comp,List.append_assoc,List.singleton_append,Prod.mk.injEq,true_and]
    omega)
   clear hQ hd
   go_wp2_with (at_builtin;refine Xco w _ w.heap.size rfl _ _ 39 rfl 5 elB _ out rfl ho _ _ _ [l[k]] rfl rfl rfl rfl (out++[l[k]]) (out.length+1) rfl (by simp) (by omega) hE rfl ?_)
   intro ad2 cap2 t2 d2 ho2
   go_wp2_with fail
   go_roundw
   case rel=>exact ⟨k+1,out++[l[k]],ad2,cap2,by omega,by go_num,by simp,ho2,Ext.ext _ _ _,by simp;omega,hQ2⟩
   case measure=>simp [intOf];omega
  ·have hQ2:Hid (sla l=none):=Lib.hid (by rw [hQ.out,List.drop_eq_nil_of_le (by omega),Xgo];rfl)
   clear hQ
   go_wp2_with fail
   go_ret2
   exact ⟨by rw [hQ2.out];simp [XjE,Xcb],hE⟩
theorem XiD (c:UInt8) (r:List UInt8) (h:XbS c=true):one (c :: r)=.ok (1,(c :: r).take (spn Xb6 (c :: r)),spn Xb6 (c :: r)):=by simp only [one,h,if_true]
theorem XiC (c:UInt8) (r:List UInt8) (h:XbS c=false) (h2:Xa0 c=true) (h3:18 < spn Xa0 (c :: r)∨1 < spn Xa0 (c :: r)∧c.toNat=48):one (c :: r)=.error 53:=by simp only [one,h,h2,if_pos h3,if_true,Bool.false_eq_true,if_false]
theorem Xk2 (c:UInt8) (r:List UInt8) (h:XbS c=false) (h2:Xa0 c=true) (h3:¬(18 < spn Xa0 (c :: r)∨1 < spn Xa0 (c :: r)∧c.toNat=48)):one (c :: r)=.ok (2,(c :: r).take (spn Xa0 (c :: r)),spn Xa0 (c :: r)):=by simp only [one,h,h2,if_neg h3,if_true,Bool.false_eq_true,if_false]
theorem Xh3 (c:UInt8) (r:List UInt8) (h:XbS c=false) (h2:Xa0 c=false) (h3:c.toNat=34):one (c :: r)=match quo r with|none=>.error 51|some x=>.ok (3,x.1,x.2+1):=by simp only [one,h,h2,if_pos h3,Bool.false_eq_true,if_false];first|done|(cases quo r<;>rfl)
theorem Xh2 (c:UInt8) (r:List UInt8) (h:XbS c=false) (h2:Xa0 c=false) (h3:c.toNat=47):one (c :: r)=match sla r with|none=>.error 52|some x=>.ok (4,x.1,x.2+1):=by simp only [one,h,h2,if_neg (show ¬c.toNat=34 by omega),if_pos h3,Bool.false_eq_true,if_false];first|done|(cases sla r<;>rfl)
theorem XdZ (c:UInt8) (r:List UInt8) (h:XbS c=false) (h2:Xa0 c=false) (h3:c.toNat=123∨c.toNat=125∨c.toNat=44∨c.toNat=61):one (c :: r)=.ok (5,[c],1):=by simp only [one,h,h2,if_neg (show ¬c.toNat=34 by omega),if_neg (show ¬c.toNat=47 by omega),if_pos h3,Bool.false_eq_true,if_false]
theorem XkZ (c:UInt8) (r:List UInt8) (h:XbS c=false) (h2:Xa0 c=false) (h3:c.toNat≠34) (h4:c.toNat≠47) (h5:¬(c.toNat=123∨c.toNat=125∨c.toNat=44∨c.toNat=61)):one (c :: r)=.error 50:=by simp only [one,h,h2,if_neg h3,if_neg h4,if_neg h5,Bool.false_eq_true,if_false]
def XeE (x:Except Int (Int × List UInt8 × Nat)):Value:=match x with
 | .error e=>.tuple #[.int .i64 0,.string (bs []),.int .i64 0,.int .i64 e]
 | .ok x=>.tuple #[.int .i64 x.1,.string (bs x.2.1),.int .i64 (x.2.2:Nat),.int .i64 0]
theorem Xlf (c:UInt8) (r:List UInt8) (w:World) (hl:r.length≤999999) (h:XbS c=true):Calls Tryz.prog 56 #[.string (bs (c :: r))] w fun e w'=>e=.returned (XeE (one (c :: r)))∧Ext w w':=by
 rw [XiD c r h]
 have hle:=XfT Xb6 (c :: r)
 rw [Xqy] at hle
 have hs:=Xg8 (c :: r) true w (by simp;omega)
 rw [show wrd true=Xb6 from rfl] at hs
 generalize spn Xb6 (c :: r)=n at hle hs ⊢
 go_enter Tryz.func56,Tryz.ntmps56
 go_wp2_with fail
 refine Calls.mono (Xbe c _) ?_
 rintro e w1 ⟨rfl,rfl⟩
 rw [h]
 go_wp2_with fail
 refine Calls.mono hs ?_
 rintro e w1 ⟨rfl,rfl⟩
 go_wp2_with fail
 go_quiet (fail)
 go_wp2_with fail
 refine bodyPost_ret (by simp [results,Tryz.results56,go_sem];try rfl) rfl ?_
 exact ⟨rfl,(by repeat (first|(with_reducible exact Below.refl _ _)|(with_reducible assumption)|(with_reducible refine Below.ext ?_ (by first|omega|(simp;done)|(simp;omega)) _ _)|(with_reducible refine Below.alloc ?_ (by first|omega|(simp;done)|(simp;omega)) _)|(with_reducible refine Below.setCell ?_ (by first|omega|(simp;done)|(simp;omega)) _)|(with_reducible refine Below.drew ?_)|(with_reducible refine Below.drewN ?_ _)))⟩
theorem Xmz (c:UInt8) (r:List UInt8) (w:World) (hl:r.length≤999999) (h:XbS c=false) (h2:Xa0 c=true):Calls Tryz.prog 56 #[.string (bs (c :: r))] w fun e w'=>e=.returned (XeE (one (c :: r)))∧Ext w w':=by
 have hle:=XfT Xa0 (c :: r)
 rw [Xqy] at hle
 have hs:=Xg8 (c :: r) false w (by simp;omega)
 rw [show wrd false=Xa0 from rfl] at hs
 have hb:=c.toNat_lt
 by_cases h3:18 < spn Xa0 (c :: r)∨1 < spn Xa0 (c :: r)∧c.toNat=48
 ·rw [XiC c r h h2 h3]
  generalize spn Xa0 (c :: r)=n at hle hs h3 ⊢
  go_enter Tryz.func56,Tryz.ntmps56
  go_wp2_with fail
  refine Calls.mono (Xbe c _) ?_
  rintro e w1 ⟨rfl,rfl⟩
  rw [h]
  go_wp2_with fail
  refine Calls.mono (Xbd c _) ?_
  rintro e w1 ⟨rfl,rfl⟩
  rw [h2]
  go_wp2_with fail
  refine Calls.mono hs ?_
  rintro e w1 ⟨rfl,rfl⟩
  have h4:18 < n∨(n≤18∧1 < n∧c.toNat=48):=by omega
  clear h3
  rcases h4 with h4|⟨h4,h5,h6⟩
  ·go_wp2_with fail
   refine bodyPost_ret (by simp [results,Tryz.results56,go_sem];try rfl) rfl ?_
   exact ⟨by simp [XeE,Xcb],(by repeat (first|(with_reducible exact Below.refl _ _)|(with_reducible assumption)|(with_reducible refine Below.ext ?_ (by first|omega|(simp;done)|(simp;omega)) _ _)|(with_reducible refine Below.alloc ?_ (by first|omega|(simp;done)|(simp;omega)) _)|(with_reducible refine Below.setCell ?_ (by first|omega|(simp;done)|(simp;omega)) _)|(with_reducible refine Below.drew ?_)|(with_reducible refine Below.drewN ?_ _)))⟩
  ·have b1:((c.toNat:Int) == 48)=true:=by rw [beq_iff_eq];omega
   clear h6
   go_wp2_with fail
   refine bodyPost_ret (by simp [results,Tryz.results56,go_sem];try rfl) rfl ?_
   exact ⟨by simp [XeE,Xcb],(by repeat (first|(with_reducible exact Below.refl _ _)|(with_reducible assumption)|(with_reducible refine Below.ext ?_ (by first|omega|(simp;done)|(simp;omega)) _ _)|(with_reducible refine Below.alloc ?_ (by first|omega|(simp;done)|(simp;omega)) _)|(with_reducible refine Below.setCell ?_ (by first|omega|(simp;done)|(simp;omega)) _)|(with_reducible refine Below.drew ?_)|(with_reducible refine Below.drewN ?_ _)))⟩
 ·rw [Xk2 c r h h2 h3]
  generalize spn Xa0 (c :: r)=n at hle hs h3 ⊢
  go_enter Tryz.func56,Tryz.ntmps56
  go_wp2_with fail
  refine Calls.mono (Xbe c _) ?_
  rintro e w1 ⟨rfl,rfl⟩
  rw [h]
  go_wp2_with fail
  refine Calls.mono (Xbd c _) ?_
  rintro e w1 ⟨rfl,rfl⟩
  rw [h2]
  go_wp2_with fail
  refine Calls.mono hs ?_
  rintro e w1 ⟨rfl,rfl⟩
  have h4:n≤18∧(n≤1∨c.toNat≠48):=by omega
  obtain ⟨h4,h5⟩:=h4
  clear h3
  by_cases h6:1 < n
  ·have b1:((c.toNat:Int) == 48)=false:=by rw [XqM];omega
   clear h5
   go_wp2_with fail
   go_quiet (fail)
   go_wp2_with fail
   refine bodyPost_ret (by simp [results,Tryz.results56,go_sem];try rfl) rfl ?_
   exact ⟨rfl,(by repeat (first|(with_reducible exact Below.refl _ _)|(with_reducible assumption)|(with_reducible refine Below.ext ?_ (by first|omega|(simp;done)|(simp;omega)) _ _)|(with_reducible refine Below.alloc ?_ (by first|omega|(simp;done)|(simp;omega)) _)|(with_reducible refine Below.setCell ?_ (by first|omega|(simp;done)|(simp;omega)) _)|(with_reducible refine Below.drew ?_)|(with_reducible refine Below.drewN ?_ _)))⟩
  ·clear h5
   go_wp2_with fail
   go_quiet (fail)
   go_wp2_with fail
   refine bodyPost_ret (by simp [results,Tryz.results56,go_sem];try rfl) rfl ?_
   exact ⟨rfl,(by repeat (first|(with_reducible exact Below.refl _ _)|(with_reducible assumption)|(with_reducible refine Below.ext ?_ (by first|omega|(simp;done)|(simp;omega)) _ _)|(with_reducible refine Below.alloc ?_ (by first|omega|(simp;done)|(simp;omega)) _)|(with_reducible refine Below.setCell ?_ (by first|omega|(simp;done)|(simp;omega)) _)|(with_reducible refine Below.drew ?_)|(with_reducible refine Below.drewN ?_ _)))⟩
theorem XmB (c:UInt8) (r:List UInt8) (w:World) (hl:r.length≤999999) (h:XbS c=false) (h2:Xa0 c=false) (h3:c.toNat=34):Calls Tryz.prog 56 #[.string (bs (c :: r))] w fun e w'=>e=.returned (XeE (one (c :: r)))∧Ext w w':=by
 obtain ⟨V,hV0⟩:∃V,V=XeE (one (c :: r)):=⟨_,rfl⟩
 rw [←hV0]
 rw [Xh3 c r h h2 h3] at hV0
 have hV:=Lib.hid hV0
 clear hV0
 have hq:=Xh9 r w (by omega)
 have hle:=Lib.hid (Xlb r)
 have y1:((c.toNat:Int) == 34)=true:=by first|(rw [beq_iff_eq];omega)|(rw [XqM];omega)
 have y2:((c.toNat:Int) == 47)=false:=by first|(rw [beq_iff_eq];omega)|(rw [XqM];omega)
 clear h3
 go_enter Tryz.func56,Tryz.ntmps56
 go_wp2_with fail
 refine Calls.mono (Xbe c _) ?_
 rintro e w1 ⟨rfl,rfl⟩
 rw [h]
 go_wp2_with fail
 refine Calls.mono (Xbd c _) ?_
 rintro e w1 ⟨rfl,rfl⟩
 rw [h2]
 go_wp2_with fail
 rw [show (bs (c :: r)).extract 1 (r.length+1)=bs r from Xj3 (c :: r) 1]
 refine Calls.mono hq ?_
 rintro e w2 ⟨rfl,hx⟩
 unfold XjE
 cases hqq:quo r with
 | none=>
   have hQQ:=Lib.hid hqq
   clear hqq hle
   go_wp2_with fail
   refine bodyPost_ret (by simp [results,Tryz.results56,go_sem];try rfl) rfl ?_
   exact ⟨by rw [hV.out,hQQ.out];simp [XeE,Xcb],hx⟩
 | some x=>
   have hx1:=(hle.out x hqq).2.1
   have hQQ:=Lib.hid hqq
   clear hqq hle
   go_wp2_with fail
   refine bodyPost_ret (by simp [results,Tryz.results56,go_sem];try rfl) rfl ?_
   exact ⟨by rw [hV.out,hQQ.out];simp [XeE],hx⟩
theorem XmA (c:UInt8) (r:List UInt8) (w:World) (hl:r.length≤999999) (h:XbS c=false) (h2:Xa0 c=false) (h3:c.toNat=47):Calls Tryz.prog 56 #[.string (bs (c :: r))] w fun e w'=>e=.returned (XeE (one (c :: r)))∧Ext w w':=by
 obtain ⟨V,hV0⟩:∃V,V=XeE (one (c :: r)):=⟨_,rfl⟩
 rw [←hV0]
 rw [Xh2 c r h h2 h3] at hV0
 have hV:=Lib.hid hV0
 clear hV0
 have hq:=Xg7 r w (by omega)
 have hle:=Lib.hid (Xhc r)
 have y1:((c.toNat:Int) == 34)=false:=by first|(rw [beq_iff_eq];omega)|(rw [XqM];omega)
 have y2:((c.toNat:Int) == 47)=true:=by first|(rw [beq_iff_eq];omega)|(rw [XqM];omega)
 clear h3
 go_enter Tryz.func56,Tryz.ntmps56
 go_wp2_with fail
 refine Calls.mono (Xbe c _) ?_
 rintro e w1 ⟨rfl,rfl⟩
 rw [h]
 go_wp2_with fail
 refine Calls.mono (Xbd c _) ?_
 rintro e w1 ⟨rfl,rfl⟩
 rw [h2]
 go_wp2_with fail
 rw [show (bs (c :: r)).extract 1 (r.length+1)=bs r from Xj3 (c :: r) 1]
 refine Calls.mono hq ?_
 rintro e w2 ⟨rfl,hx⟩
 unfold XjE
 cases hqq:sla r with
 | none=>
   have hQQ:=Lib.hid hqq
   clear hqq hle
   go_wp2_with fail
   refine bodyPost_ret (by simp [results,Tryz.results56,go_sem];try rfl) rfl ?_
   exact ⟨by rw [hV.out,hQQ.out];simp [XeE,Xcb],hx⟩
 | some x=>
   have hx1:=(hle.out x hqq).2.1
   have hQQ:=Lib.hid hqq
   clear hqq hle
   go_wp2_with fail
   refine bodyPost_ret (by simp [results,Tryz.results56,go_sem];try rfl) rfl ?_
   exact ⟨by rw [hV.out,hQQ.out];simp [XeE],hx⟩
theorem Xg4 (c:UInt8) (r:List UInt8) (w:World) (hl:r.length≤999999) (h:XbS c=false) (h2:Xa0 c=false) (h3:c.toNat=123):Calls Tryz.prog 56 #[.string (bs (c :: r))] w fun e w'=>e=.returned (XeE (one (c :: r)))∧Ext w w':=by
 rw [XdZ c r h h2 (by omega)]
 have y0:((c.toNat:Int) == 34)=false:=by first|(rw [XqM];omega)|fail
 have y1:((c.toNat:Int) == 47)=false:=by first|(rw [XqM];omega)|fail
 have y2:((c.toNat:Int) == 123)=true:=by first|(rw [beq_iff_eq];omega)|fail
 have y3:((c.toNat:Int) == 125)=false:=by first|(rw [XqM];omega)|fail
 have y4:((c.toNat:Int) == 44)=false:=by first|(rw [XqM];omega)|fail
 have y5:((c.toNat:Int) == 61)=false:=by first|(rw [XqM];omega)|fail
 clear h3
 go_enter Tryz.func56,Tryz.ntmps56
 go_wp2_with fail
 refine Calls.mono (Xbe c _) ?_
 rintro e w1 ⟨rfl,rfl⟩
 rw [h]
 go_wp2_with fail
 refine Calls.mono (Xbd c _) ?_
 rintro e w1 ⟨rfl,rfl⟩
 rw [h2]
 go_wp2_with fail
 all_goals (try (go_quiet (fail)))
 all_goals (try go_wp2_with fail)
 all_goals refine bodyPost_ret (by simp [results,Tryz.results56,go_sem];try rfl) rfl ?_
 all_goals exact ⟨by simp [XeE],(by repeat (first|(with_reducible exact Below.refl _ _)|(with_reducible refine Below.drewN ?_ _)|fail))⟩
theorem Xg5 (c:UInt8) (r:List UInt8) (w:World) (hl:r.length≤999999) (h:XbS c=false) (h2:Xa0 c=false) (h3:c.toNat=125):Calls Tryz.prog 56 #[.string (bs (c :: r))] w fun e w'=>e=.returned (XeE (one (c :: r)))∧Ext w w':=by
 rw [XdZ c r h h2 (by omega)]
 have y0:((c.toNat:Int) == 34)=false:=by first|(rw [XqM];omega)|fail
 have y1:((c.toNat:Int) == 47)=false:=by first|(rw [XqM];omega)|fail
 have y2:((c.toNat:Int) == 123)=false:=by first|(rw [XqM];omega)|fail
 have y3:((c.toNat:Int) == 125)=true:=by first|(rw [beq_iff_eq];omega)|fail
 have y4:((c.toNat:Int) == 44)=false:=by first|(rw [XqM];omega)|fail
 have y5:((c.toNat:Int) == 61)=false:=by first|(rw [XqM];omega)|fail
 clear h3
 go_enter Tryz.func56,Tryz.ntmps56
 go_wp2_with fail
 refine Calls.mono (Xbe c _) ?_
 rintro e w1 ⟨rfl,rfl⟩
 rw [h]
 go_wp2_with fail
 refine Calls.mono (Xbd c _) ?_
 rintro e w1 ⟨rfl,rfl⟩
 rw [h2]
 go_wp2_with fail
 all_goals (try (go_quiet (fail)))
 all_goals (try go_wp2_with fail)
 all_goals refine bodyPost_ret (by simp [results,Tryz.results56,go_sem];try rfl) rfl ?_
 all_goals exact ⟨by simp [XeE],(by repeat (first|(with_reducible exact Below.refl _ _)|(with_reducible refine Below.drewN ?_ _)|fail))⟩
theorem Xh7 (c:UInt8) (r:List UInt8) (w:World) (hl:r.length≤999999) (h:XbS c=false) (h2:Xa0 c=false) (h3:c.toNat=44):Calls Tryz.prog 56 #[.string (bs (c :: r))] w fun e w'=>e=.returned (XeE (one (c :: r)))∧Ext w w':=by
 rw [XdZ c r h h2 (by omega)]
 have y0:((c.toNat:Int) == 34)=false:=by first|(rw [XqM];omega)|fail
 have y1:((c.toNat:Int) == 47)=false:=by first|(rw [XqM];omega)|fail
 have y2:((c.toNat:Int) == 123)=false:=by first|(rw [XqM];omega)|fail
 have y3:((c.toNat:Int) == 125)=false:=by first|(rw [XqM];omega)|fail
 have y4:((c.toNat:Int) == 44)=true:=by first|(rw [beq_iff_eq];omega)|fail
 have y5:((c.toNat:Int) == 61)=false:=by first|(rw [XqM];omega)|fail
 clear h3
 go_enter Tryz.func56,Tryz.ntmps56
 go_wp2_with fail
 refine Calls.mono (Xbe c _) ?_
 rintro e w1 ⟨rfl,rfl⟩
 rw [h]
 go_wp2_with fail
 refine Calls.mono (Xbd c _) ?_
 rintro e w1 ⟨rfl,rfl⟩
 rw [h2]
 go_wp2_with fail
 all_goals (try (go_quiet (fail)))
 all_goals (try go_wp2_with fail)
 all_goals refine bodyPost_ret (by simp [results,Tryz.results56,go_sem];try rfl) rfl ?_
 all_goals exact ⟨by simp [XeE],(by repeat (first|(with_reducible exact Below.refl _ _)|(with_reducible refine Below.drewN ?_ _)|fail))⟩
theorem Xh8 (c:UInt8) (r:List UInt8) (w:World) (hl:r.length≤999999) (h:XbS c=false) (h2:Xa0 c=false) (h3:c.toNat=61):Calls Tryz.prog 56 #[.string (bs (c :: r))] w fun e w'=>e=.returned (XeE (one (c :: r)))∧Ext w w':=by
 rw [XdZ c r h h2 (by omega)]
 have y0:((c.toNat:Int) == 34)=false:=by first|(rw [XqM];omega)|fail
 have y1:((c.toNat:Int) == 47)=false:=by first|(rw [XqM];omega)|fail
 have y2:((c.toNat:Int) == 123)=false:=by first|(rw [XqM];omega)|fail
 have y3:((c.toNat:Int) == 125)=false:=by first|(rw [XqM];omega)|fail
 have y4:((c.toNat:Int) == 44)=false:=by first|(rw [XqM];omega)|fail
 have y5:((c.toNat:Int) == 61)=true:=by first|(rw [beq_iff_eq];omega)|fail
 clear h3
 go_enter Tryz.func56,Tryz.ntmps56
 go_wp2_with fail
 refine Calls.mono (Xbe c _) ?_
 rintro e w1 ⟨rfl,rfl⟩
 rw [h]
 go_wp2_with fail
 refine Calls.mono (Xbd c _) ?_
 rintro e w1 ⟨rfl,rfl⟩
 rw [h2]
 go_wp2_with fail
 all_goals (try (go_quiet (fail)))
 all_goals (try go_wp2_with fail)
 all_goals refine bodyPost_ret (by simp [results,Tryz.results56,go_sem];try rfl) rfl ?_
 all_goals exact ⟨by simp [XeE],(by repeat (first|(with_reducible exact Below.refl _ _)|(with_reducible refine Below.drewN ?_ _)|fail))⟩
theorem Xmy (c:UInt8) (r:List UInt8) (w:World) (hl:r.length≤999999) (h:XbS c=false) (h2:Xa0 c=false) (h3:c.toNat≠34) (h4:c.toNat≠47) (h5:¬(c.toNat=123∨c.toNat=125∨c.toNat=44∨c.toNat=61)):Calls Tryz.prog 56 #[.string (bs (c :: r))] w fun e w'=>e=.returned (XeE (one (c :: r)))∧Ext w w':=by
 rw [XkZ c r h h2 h3 h4 h5]
 have y0:((c.toNat:Int) == 34)=false:=by first|(rw [XqM];omega)|fail
 have y1:((c.toNat:Int) == 47)=false:=by first|(rw [XqM];omega)|fail
 have y2:((c.toNat:Int) == 123)=false:=by first|(rw [XqM];omega)|fail
 have y3:((c.toNat:Int) == 125)=false:=by first|(rw [XqM];omega)|fail
 have y4:((c.toNat:Int) == 44)=false:=by first|(rw [XqM];omega)|fail
 have y5:((c.toNat:Int) == 61)=false:=by first|(rw [XqM];omega)|fail
 clear h3 h4 h5
 go_enter Tryz.func56,Tryz.ntmps56
 go_wp2_with fail
 refine Calls.mono (Xbe c _) ?_
 rintro e w1 ⟨rfl,rfl⟩
 rw [h]
 go_wp2_with fail
 refine Calls.mono (Xbd c _) ?_
 rintro e w1 ⟨rfl,rfl⟩
 rw [h2]
 go_wp2_with fail
 refine bodyPost_ret (by simp [results,Tryz.results56,go_sem];try rfl) rfl ?_
 exact ⟨by simp [XeE,Xcb],(by repeat (first|(with_reducible exact Below.refl _ _)|fail))⟩
theorem Xmx (c:UInt8) (r:List UInt8) (w:World) (hl:r.length≤999999) :Calls Tryz.prog 56 #[.string (bs (c :: r))] w fun e w'=>e=.returned (XeE (one (c :: r)))∧Ext w w':=by
 cases h:XbS c with
 | true=>exact Xlf c r w hl h
 | false=>
   cases h2:Xa0 c with
   | true=>exact Xmz c r w hl h h2
   | false=>
     by_cases h3:c.toNat=34
     ·exact XmB c r w hl h h2 h3
     by_cases h4:c.toNat=47
     ·exact XmA c r w hl h h2 h4
     by_cases h5:c.toNat=123
     ·exact Xg4 c r w hl h h2 h5
     by_cases h6:c.toNat=125
     ·exact Xg5 c r w hl h h2 h6
     by_cases h7:c.toNat=44
     ·exact Xh7 c r w hl h h2 h7
     by_cases h8:c.toNat=61
     ·exact Xh8 c r w hl h h2 h8
     exact Xmy c r w hl h h2 h3 h4 (by omega)
end Go.Proofs.YtdpobjakdplljaaGreatDoor
