import Derived.WalkKit
import Derived.WalkSpells
import Derived.WalkLawsBesides
import Derived.Handy
import Derived.Lib.Hide
import Derived.Laws.AppendOwnNone
import Derived.Laws.BytesArg
import Derived.Lib.SliceRun
import Derived.Lib.AppendStr
import Derived.Lib.SlBytesConst
import Derived.Deep.LoopGhost
import Derived.BigQuiet
import Derived.Deep.QuietTactic
import Derived.Deep.RegionWith
import Derived.Deep.RegionLaw
import Derived.Deep.CutBlock
import Derived.Deep.DeepCutAuto
import Derived.Test.YtdlblokjfoggpaaGreatDoorChecked
import Derived.Lib.LaidTab
import Derived.Lib.ItoaNum
/- The base of the walks: what a slice value shows, how long it lasts, and the append onto a row that the call owns. No program in sight. -/
set_option linter.unusedSimpArgs false
set_option linter.unusedVariables false
set_option maxRecDepth 100000
set_option maxHeartbeats 8000000
namespace Go.Proofs.YtdlblokjfoggpaaGreatDoor
abbrev Xyn := @Nat.le_of_ble_eq_true
abbrev Xyo := @List.Perm.refl
abbrev Xyp := @List.foldl_cons
abbrev Xyq := @List.foldl_nil
abbrev Xyr := @List.length_cons
abbrev Xys := @List.append_eq
abbrev Xyt := @List.map_cons
abbrev Xyu := @List.length_nil
abbrev Xyv := @List.replicate_succ
abbrev Xyw := @List.replicate_zero
abbrev Xyx := @List.map_nil
abbrev Xyy := @List.nil_append
abbrev Xyz := @List.cons_append
abbrev XyA := @List.length_append
abbrev XyB := @List.perm_middle
abbrev XyC := @List.set_cons_zero
abbrev XyD := @List.set_cons_succ
abbrev XyE := @List.Perm.cons
abbrev XyF := @beq_eq_false_iff_ne
open Go.RowKit
/-! ### Worlds -/
def XbX (lo hi:Nat) (w w':World):Prop:=∀k,lo≤k→k < hi→w'.heap[k]?=w.heap[k]?
theorem XbX.refl (lo hi:Nat) (w:World):XbX lo hi w w:=fun _ _ _=>rfl
theorem XbX.trans {lo hi:Nat} {a b c:World} (h:XbX lo hi a b) (k:XbX lo hi b c):XbX lo hi a c:=fun i h1 h2=>(k i h1 h2).trans (h i h1 h2)
theorem XbX.setCell {lo hi:Nat} {a w:World} (h:XbX lo hi a w) {p:Addr} (hp:p.block < lo∨hi≤p.block) (u:Value):XbX lo hi a (w.setCell p u):=
 fun k h1 h2=>(Below.heap_setCell _ _ _ _ (by omega)).trans (h k h1 h2)
theorem XbX.alloc {lo hi:Nat} {a w:World} (h:XbX lo hi a w) (hB:hi≤w.heap.size) (o:Obj):XbX lo hi a (w.alloc o):=
 fun k h1 h2=>(Below.heap_alloc _ _ _ (by omega)).trans (h k h1 h2)
theorem XbX.drew {lo hi:Nat} {a w:World} (h:XbX lo hi a w):XbX lo hi a w.drew:=h
theorem XbX.mono {lo hi lo' hi':Nat} {w w':World} (h:XbX lo hi w w') (h1:lo≤lo') (h2:hi'≤hi):XbX lo' hi' w w':=fun k a b=>h k (by omega) (by omega)
theorem XbX.of_below {B lo hi:Nat} {w w':World} (h:Below B w w') (hh:hi≤B):XbX lo hi w w':=fun k _ b=>h.block k (by omega)
theorem XbX.cell {lo hi:Nat} {w w':World} (h:XbX lo hi w w') {a:Addr} (h1:lo≤a.block) (h2:a.block < hi):w'.cell? a=w.cell? a:=World.cell?_of_block (h a.block h1 h2)
abbrev Ext (w w':World):Prop:=Below w.heap.size w w'
theorem Ext.tr {a b c:World} (h:Ext a b) (k:Ext b c):Ext a c:=Below.trans h (k.mono h.size)
theorem Ext.al (w:World) (o:Obj):Ext w (w.alloc o):=(Below.refl _ _).alloc (Nat.le_refl _) o
theorem Ext.agree {w w':World} (h:Ext w w') (lo:Nat):XbX lo w.heap.size w w':=XbX.of_below h (Nat.le_refl _)
theorem Ext.blk {W w1:World} (hb:Ext W w1) (b:Nat) (vs:Array Value) (hl:b < W.heap.size) (h:(∀o,W.cell? ⟨b,o,none⟩=vs[o]?)∧∀o,W.frozen? ⟨b,o,none⟩=false) :
  (∀o,w1.cell? ⟨b,o,none⟩=vs[o]?)∧∀o,w1.frozen? ⟨b,o,none⟩=false:=
 ⟨fun o=>(hb.cell (p:=⟨b,o,none⟩) hl).trans (h.1 o),fun o=>(hb.frozen (p:=⟨b,o,none⟩) hl).trans (h.2 o)⟩
theorem Below.blk {B:Nat} {W w1:World} (hb:Below B W w1) (b:Nat) (vs:Array Value) (hl:b < B) (h:(∀o,W.cell? ⟨b,o,none⟩=vs[o]?)∧∀o,W.frozen? ⟨b,o,none⟩=false) :
  (∀o,w1.cell? ⟨b,o,none⟩=vs[o]?)∧∀o,w1.frozen? ⟨b,o,none⟩=false:=
 ⟨fun o=>(hb.cell (p:=⟨b,o,none⟩) hl).trans (h.1 o),fun o=>(hb.frozen (p:=⟨b,o,none⟩) hl).trans (h.2 o)⟩
@[go_sem] theorem Xu0 {a b k:Nat} (h:a < b):(a < b+k)=True:=eq_true (Nat.lt_add_right k h)
end Go.Proofs.YtdlblokjfoggpaaGreatDoor
namespace Go
def World.ext (w:World) (t:Array Obj) (d:Nat):World:={ w with heap:=w.heap++t,drawn:=d }
end Go
namespace Go.Proofs.YtdlblokjfoggpaaGreatDoor
open Go.RowKit
section
variable {w w1:World} {t:Array Obj} {d:Nat}
@[simp] theorem World.size_ext:(w.ext t d).heap.size=w.heap.size+t.size:=by simp [World.ext]
@[simp] theorem World.tape_ext:(w.ext t d).tape=w.tape:=rfl
theorem Xgh {k:Nat} (hk:k < w.heap.size):(w.ext t d).heap[k]?=w.heap[k]?:=by
 show (w.heap++t)[k]?=_
 rw [Array.getElem?_append_left hk]
theorem XkZ {k:Nat} (hk:w.heap.size≤k):(w.ext t d).heap[k]?=t[k - w.heap.size]?:=by
 show (w.heap++t)[k]?=_
 rw [Array.getElem?_append_right hk]
@[go_sem] theorem cell?_ext (n i:Nat) (hn:n < w.heap.size):(w.ext t d).cell? ⟨n,i,none⟩=w.cell? ⟨n,i,none⟩:=World.cell?_of_block (Xgh hn)
@[go_sem] theorem frozen?_ext (n i:Nat) (hn:n < w.heap.size):(w.ext t d).frozen? ⟨n,i,none⟩=w.frozen? ⟨n,i,none⟩:=World.frozen?_of_block (Xgh hn)
@[go_sem] theorem Xkr (n i:Nat) (v:Value) (hn:n < w.heap.size):(w.ext t d).setCell ⟨n,i,none⟩ v=(w.setCell ⟨n,i,none⟩ v).ext t d:=by
 simp only [World.setCell,World.ext,World.mk.injEq,and_true]
 apply Array.ext_getElem?
 intro k
 by_cases hk:k < w.heap.size
 ·rw [Array.getElem?_append_left (by simpa using hk),Array.getElem?_modify,Array.getElem?_modify,Array.getElem?_append_left hk]
 ·rw [Array.getElem?_append_right (by simpa using Nat.le_of_not_lt hk),Array.getElem?_modify,if_neg (by omega),Array.getElem?_append_right (by omega)]
  simp
@[go_sem] theorem cell?_ext1 (o:Obj) (n i:Nat) (hn:n < w.heap.size):((w.ext t d).alloc o).cell? ⟨n,i,none⟩=w.cell? ⟨n,i,none⟩:=(World.cell?_alloc_lt _ o ⟨n,i,none⟩ (by simp;omega)).trans (cell?_ext n i hn)
@[go_sem] theorem frozen?_ext1 (o:Obj) (n i:Nat) (hn:n < w.heap.size):((w.ext t d).alloc o).frozen? ⟨n,i,none⟩=w.frozen? ⟨n,i,none⟩:=(World.frozen?_alloc_old _ o ⟨n,i,none⟩ (by simp;omega)).trans (frozen?_ext n i hn)
@[go_sem] theorem Xi9 (o:Obj) (n i:Nat) (v:Value) (hn:n < w.heap.size):((w.ext t d).alloc o).setCell ⟨n,i,none⟩ v=((w.setCell ⟨n,i,none⟩ v).ext t d).alloc o:=by
 rw [World.setCell_alloc_past o n i v (by simp;omega),Xkr n i v hn]
@[go_sem] theorem cell?_ext2 (o o2:Obj) (n i:Nat) (hn:n < w.heap.size):(((w.ext t d).alloc o).alloc o2).cell? ⟨n,i,none⟩=w.cell? ⟨n,i,none⟩:=(World.cell?_alloc_lt _ o2 ⟨n,i,none⟩ (by simp;omega)).trans (cell?_ext1 o n i hn)
@[go_sem] theorem frozen?_ext2 (o o2:Obj) (n i:Nat) (hn:n < w.heap.size):(((w.ext t d).alloc o).alloc o2).frozen? ⟨n,i,none⟩=w.frozen? ⟨n,i,none⟩:=(World.frozen?_alloc_old _ o2 ⟨n,i,none⟩ (by simp;omega)).trans (frozen?_ext1 o n i hn)
@[go_sem] theorem Xja (o o2:Obj) (n i:Nat) (v:Value) (hn:n < w.heap.size):(((w.ext t d).alloc o).alloc o2).setCell ⟨n,i,none⟩ v=(((w.setCell ⟨n,i,none⟩ v).ext t d).alloc o).alloc o2:=by
 rw [World.setCell_alloc_past o2 n i v (by simp;omega),Xi9 o n i v hn]
@[go_sem] theorem cell?_ext3 (o o2 o3:Obj) (n i:Nat) (hn:n < w.heap.size):((((w.ext t d).alloc o).alloc o2).alloc o3).cell? ⟨n,i,none⟩=w.cell? ⟨n,i,none⟩:=(World.cell?_alloc_lt _ o3 ⟨n,i,none⟩ (by simp;omega)).trans (cell?_ext2 o o2 n i hn)
@[go_sem] theorem frozen?_ext3 (o o2 o3:Obj) (n i:Nat) (hn:n < w.heap.size):((((w.ext t d).alloc o).alloc o2).alloc o3).frozen? ⟨n,i,none⟩=w.frozen? ⟨n,i,none⟩:=(World.frozen?_alloc_old _ o3 ⟨n,i,none⟩ (by simp;omega)).trans (frozen?_ext2 o o2 n i hn)
@[go_sem] theorem Xso (o o2 o3:Obj) (n i:Nat) (v:Value) (hn:n < w.heap.size):((((w.ext t d).alloc o).alloc o2).alloc o3).setCell ⟨n,i,none⟩ v=((((w.setCell ⟨n,i,none⟩ v).ext t d).alloc o).alloc o2).alloc o3:=by
 rw [World.setCell_alloc_past o3 n i v (by simp;omega),Xja o o2 n i v hn]
@[go_sem] theorem XwV:(w.ext t d).drew=w.ext t (d+1):=rfl
@[go_sem] theorem XwS:w.drew.ext t d=w.ext t d:=rfl
theorem Below.ext {B:Nat} {a w:World} (h:Below B a w) (hB:B≤w.heap.size) (t:Array Obj) (d:Nat):Below B a (w.ext t d):=
 h.trans ⟨rfl,rfl,rfl,by simp,fun k hk=>Xgh (by omega)⟩
theorem Below.drewN {B:Nat} {a w:World} (h:Below B a w) (n:Nat):Below B a (w.drewN n):=⟨h.os,h.tape,h.output,h.size,h.block⟩
@[go_sem] theorem XvD (n:Nat):(w.ext t d).drewN n=w.ext t (d+n):=rfl
@[go_sem] theorem Xvr (n:Nat):(w.drewN n).ext t d=w.ext t d:=rfl
theorem Ext.ext (w:World) (t:Array Obj) (d:Nat):Ext w (w.ext t d):=Below.ext (Below.refl _ _) (Nat.le_refl _) t d
@[go_sem] theorem Xtv (w:World) (t t2:Array Obj) (d d2:Nat):(w.ext t d).ext t2 d2=w.ext (t++t2) d2:=by simp [World.ext,Array.append_assoc]
theorem Ext.app (w:World) (t t2:Array Obj) (d d2:Nat):Ext (w.ext t d) (w.ext (t++t2) d2):=by rw [←Xtv w t t2 d d2];exact Ext.ext _ _ _
theorem XbX.tail {w w':World} {t:Array Obj} {d d' lo hi:Nat} (hs:w'.heap.size=w.heap.size) (hl:w.heap.size≤lo):XbX lo hi (w.ext t d) (w'.ext t d'):=by
 intro k h1 h2
 rw [XkZ (by omega),XkZ (by omega),hs]
end
/-! ### Slices -/
def Sl (lo:Nat) (w:World) (v:Value) (n:Nat) (xs:List Value):Prop:=
 ∃ad cap,v=.slice ad n cap∧n≤cap∧cap≤maxLen∧(ad=none→cap=0)∧(∀x,ad=some x→lo≤x.block) ∧
  ∀j u,xs[j]?=some u→∃x,ad=some x∧w.cell? (x.add j)=some u
section
variable {lo:Nat} {w w':World} {v:Value} {n:Nat} {xs:List Value}
theorem Sl.nil (lo:Nat) (w:World):Sl lo w (.slice none 0 0) 0 []:=⟨none,0,rfl,Nat.le_refl _,by simp [maxLen],fun _=>rfl,fun x h=>(by cases h),fun j u h=>(by simp at h)⟩
theorem Sl.le (h:Sl lo w v n xs):n≤maxLen:=by
 obtain ⟨ad,cap,rfl,h1,h2,_⟩:=h;omega
theorem Sl.shape (h:Sl lo w v n xs):∃ad cap,v=.slice ad n cap∧n≤cap:=by
 obtain ⟨ad,cap,rfl,hn,_⟩:=h;exact ⟨ad,cap,rfl,hn⟩
theorem Addr.add_block (x:Addr) (j:Nat):(x.add j).block=x.block:=by unfold Addr.add;split<;>rfl
theorem Sl.agree (h:Sl lo w v n xs) (hc:XbX lo w.heap.size w w'):Sl lo w' v n xs:=by
 obtain ⟨ad,cap,rfl,h1,h2,h3,h5,h4⟩:=h
 refine ⟨ad,cap,rfl,h1,h2,h3,h5,fun j u hj=>?_⟩
 obtain ⟨x,hx,hu⟩:=h4 j u hj
 refine ⟨x,hx,?_⟩
 have hlt:=World.block_lt_of_cell? w _ hu
 rw [hc.cell (by rw [Addr.add_block];exact h5 x hx) hlt];exact hu
theorem Sl.mono (h:Sl lo w v n xs) (hb:Ext w w'):Sl lo w' v n xs:=h.agree (hb.agree lo)
theorem Sl.weak {lo':Nat} (h:Sl lo w v n xs) (hl:lo'≤lo):Sl lo' w v n xs:=by
 obtain ⟨ad,cap,rfl,h1,h2,h3,h5,h4⟩:=h
 exact ⟨ad,cap,rfl,h1,h2,h3,fun x hx=>Nat.le_trans hl (h5 x hx),h4⟩
theorem Sl.own {base:Nat} {e:TypeId} {size:Nat} (h:w.ownsRow base e size v n xs):Sl base w v n xs:=by
 obtain ⟨hl,⟨rfl,rfl⟩|⟨g,cap,cur,rfl,hbg,hg,hn,hm,hs,ht⟩⟩:=h
 ·have:xs=[]:=List.eq_nil_of_length_eq_zero (by simpa using hl)
  subst this;exact Sl.nil _ w
 ·refine ⟨_,_,rfl,hn,hm,(by intro h;cases h),(by intro x hx;cases hx;exact hbg),fun j u hj=>⟨_,rfl,?_⟩⟩
  have hadd:(⟨g,0,none⟩:Addr).add j=⟨g,j,none⟩:=by unfold Addr.add;split<;>simp_all
  rw [hadd,cell_of_row w g j cur e (0,0) hg]
  have hjl:j < xs.length:=(List.getElem?_eq_some_iff.1 hj).1
  rw [←ht,List.getElem?_take,if_pos (by omega)] at hj
  simpa using hj
theorem Sl.split (h:Sl lo w v n xs):∃ad cap,v=.slice ad n cap∧n≤cap∧cap≤maxLen∧(ad=none→cap=0) ∧
  (xs=[]∨∃b o,ad=some ⟨b,o,none⟩∧b < w.heap.size∧∀j u,xs[j]?=some u→w.cell? ⟨b,o+j,none⟩=some u):=by
 obtain ⟨ad,cap,rfl,h1,h2,h3,_,h4⟩:=h
 refine ⟨ad,cap,rfl,h1,h2,h3,?_⟩
 cases xs with
 | nil=>exact .inl rfl
 | cons y ys=>
   obtain ⟨⟨b,o,sp⟩,rfl,hx⟩:=h4 0 y rfl
   have hs:sp=none:=by
    cases sp with
    | none=>rfl
    | some q=>simp [Addr.add,World.cell?] at hx;split at hx<;>simp at hx
   subst hs
   have hlt:=World.block_lt_of_cell? w _ hx
   refine .inr ⟨b,o,rfl,by simpa [Addr.add_block] using hlt,fun j u hj=>?_⟩
   obtain ⟨x,hx,hu⟩:=h4 j u hj
   cases hx
   have hadd:(⟨b,o,none⟩:Addr).add j=⟨b,o+j,none⟩:=by unfold Addr.add;split<;>simp_all
   rwa [hadd] at hu
theorem XgB {base:Nat} {e:TypeId} {size:Nat} (h:w.ownsRow base e size v n xs) (hc:XbX base w.heap.size w w'):w'.ownsRow base e size v n xs:=by
 obtain ⟨hl,hn|⟨g,cap,cur,rfl,hbg,hg,r⟩⟩:=h
 ·exact ⟨hl,.inl hn⟩
 ·exact ⟨hl,.inr ⟨g,cap,cur,rfl,hbg,(hc g hbg (Array.getElem?_eq_some_iff.1 hg).1).trans hg,r⟩⟩
theorem Xle {base:Nat} {e:TypeId} {size:Nat} (h:w.ownsRow base e size v n xs) (hc:Ext w w'):w'.ownsRow base e size v n xs:=XgB h (hc.agree _)
theorem Xlf {base base':Nat} {e:TypeId} {size:Nat} (h:w.ownsRow base e size v n xs) (hb:base'≤base):w.ownsRow base' e size v n xs:=by
 obtain ⟨hl,hn|⟨g,cap,cur,rfl,hbg,r⟩⟩:=h
 ·exact ⟨hl,.inl hn⟩
 ·exact ⟨hl,.inr ⟨g,cap,cur,rfl,by omega,r⟩⟩
theorem Xuf (w:World) (lo g:Nat) (e:TypeId) (size:Nat) (hg:g=w.heap.size) (h:lo≤w.heap.size):(w.alloc (.cells #[] e)).ownsRow lo e size (.slice (some ⟨g,0,none⟩) 0 0) 0 []:=by
 subst hg;exact World.ownsRow_lit w #[] 0 h (Nat.zero_le _) (by simp)
end
/-! ### append -/
def XsU (n bytes:Nat):Prop:=n*bytes≤140737488355328∧n≤maxLen
theorem Xqs (n bytes:Nat) (h:n≤10000000) (hb:bytes≤100000):XsU n bytes:=by
 have:n*bytes≤10000000*100000:=Nat.mul_le_mul h hb
 exact ⟨by omega,by unfold maxLen;omega⟩
structure Xee (P:Program) (t e:TypeId) (z:Value) (size bytes:Nat):Prop where
 under:P.underlying t=some (.slice e)
 info:(P.info? e).map (fun i=>(i.zero,i.size,i.bytes))=some (some z,size,bytes)
 zs:z.cells.size=size
 pos:0 < size
section
variable {P:Program} {ops:Array Oper} {rest:List Oper} {o:Oper} {a:Act} {Q:Exit→Act→World→Prop}
end
section
variable {P:Program}
@[go_sem] theorem Xqq (w:World) (t:TypeId) (a:Option Addr) (n c n' c':Nat) (h:P.underlying t=some (.slice (P.elem t))) :
  (binOp .eql t (.slice a n c) (.slice none n' c')).run P w=.ok (.bool a.isNone) w:=Lib.run_eql_slice_nil w t _ a n c n' c' h
@[go_sem] theorem XqS (w:World) (t:TypeId) (a:Option Addr) (n c n' c':Nat) (h:P.underlying t=some (.slice (P.elem t))) :
  (binOp .neq t (.slice a n c) (.slice none n' c')).run P w=.ok (.bool (!a.isNone)) w:=run_neq_slice_nil_any w t _ a n c n' c' h
end
/-! ### Bytes -/
def u8s (l:List UInt8):List Value:=l.map fun b=>.int .u8 b.toNat
theorem XkC (l:List UInt8):(u8s l).length=l.length:=by simp [u8s]
def Bs (lo:Nat) (w:World) (v:Value) (l:List UInt8):Prop:=Sl lo w v l.length (u8s l)
section
variable {lo:Nat} {w w':World} {v:Value} {l:List UInt8}
theorem Bs.mono (h:Bs lo w v l) (hb:Ext w w'):Bs lo w' v l:=Sl.mono h hb
theorem Bs.agree (h:Bs lo w v l) (hb:XbX lo w.heap.size w w'):Bs lo w' v l:=Sl.agree h hb
theorem Bs.weak {lo':Nat} (h:Bs lo w v l) (hl:lo'≤lo):Bs lo' w v l:=Sl.weak h hl
theorem Bs.nil (lo:Nat) (w:World):Bs lo w (.slice none 0 0) []:=Sl.nil lo w
theorem Bs.drew (h:Bs lo w v l):Bs lo w.drew v l:=h
theorem Bs.le (h:Bs lo w v l):l.length≤maxLen:=Sl.le h
theorem Bs.shape (h:Bs lo w v l):∃ad cap,v=.slice ad l.length cap∧l.length≤cap:=Sl.shape h
theorem Bs.take {ad:Option Addr} {n cap:Nat} (h:Bs lo w (.slice ad n cap) l) (k:Nat) (hk:k≤l.length):Bs lo w (.slice ad k cap) (l.take k):=by
 obtain ⟨ad',cap',e,h1,h2,h3,h5,h4⟩:=h
 cases e
 have hkl:(l.take k).length=k:=by simp;omega
 refine ⟨ad,cap,by rw [hkl],by omega,h2,h3,h5,fun j u hj=>?_⟩
 have hj':(u8s l)[j]?=some u:=by
  rw [u8s,List.getElem?_map] at hj ⊢
  rw [List.getElem?_take] at hj
  split at hj
  ·exact hj
  ·simp at hj
 exact h4 j u hj'
theorem Bs.drop {ad:Option Addr} {n cap:Nat} (h:Bs lo w (.slice ad n cap) l) (k:Nat) (hk:k≤l.length):Bs lo w (.slice (if cap=k then ad else ad.map (·.add k)) (n - k) (cap - k)) (l.drop k):=by
 obtain ⟨ad',cap',e,h1,h2,h3,h5,h4⟩:=h
 cases e
 refine ⟨_,_,by rw [List.length_drop],by rw [List.length_drop];omega,by omega,?_,?_,fun j u hj=>?_⟩
 ·intro he
  split at he
  ·have:=h3 he;omega
  ·cases ad with
   | none=>have:=h3 rfl;omega
   | some x=>simp at he
 ·intro x hx
  split at hx
  ·exact h5 x hx
  ·cases ad with
   | none=>simp at hx
   | some y=>simp at hx;subst hx;rw [Addr.add_block];exact h5 y rfl
 ·have hj':(u8s l)[k+j]?=some u:=by
   rw [u8s,List.getElem?_map] at hj ⊢
   rwa [List.getElem?_drop] at hj
  obtain ⟨x,rfl,hx⟩:=h4 _ u hj'
  have hne:cap≠k:=by
   have hlt:=(List.getElem?_eq_some_iff.1 hj').1
   rw [XkC] at hlt;omega
  refine ⟨x.add k,by rw [if_neg hne];rfl,?_⟩
  have:(x.add k).add j=x.add (k+j):=by
   unfold Addr.add
   by_cases hk0:k=0
   ·subst hk0;simp
   ·by_cases hj0:j=0
    ·subst hj0;simp [hk0]
    ·have:k+j≠0:=by omega
     simp [hk0,hj0];omega
  rw [this];exact hx
theorem Bs.own {base:Nat} {e:TypeId} (h:w.ownsRow base e 1 v l.length (u8s l)):Bs base w v l:=Sl.own h
end
theorem Bs.block (w:World) (lo g n c:Nat) (C:Array Value) (e:TypeId) (fr:Nat × Nat) (l:List UInt8) (hg:g=w.heap.size) (hlo:lo≤g) (hC:C.toList=u8s l) (hn:n=l.length) (hnc:n≤c) (hc:c≤maxLen):Bs lo (w.alloc (.cells C e fr)) (.slice (some ⟨g,0,none⟩) n c) l:=by
 subst hg hn
 refine ⟨_,_,rfl,hnc,hc,(by intro h;cases h),(by intro x hx;cases hx;exact hlo),fun j u hj=>⟨_,rfl,?_⟩⟩
 have hadd:(⟨w.heap.size,0,none⟩:Addr).add j=⟨w.heap.size,j,none⟩:=by unfold Addr.add;split<;>simp_all
 rw [hadd,World.cell?_alloc_mark,←Array.getElem?_toList,hC,hj]
section
variable {P:Program}
@[go_sem] theorem XmY (w:World) (t e:TypeId) (C:Array Value) (g n c:Nat) (hg:g=w.heap.size) (ht:P.underlying t=some (.slice (P.elem t))) (he:P.elem t=e) (hu:P.underlying e=some (.int .u8)) :
  (convert t t (.slice (some ⟨g,0,none⟩) n c)).run P (w.alloc (.cells C e))=.ok (.slice (some ⟨g,0,none⟩) n c) (w.alloc (.cells C e (C.size,C.size+1))):=by
 subst hg he;exact Lib.run_convert_bytes_const w t _ C n c ht hu
end
@[go_sem] theorem cell?_alloc_at_mark (w:World) (C:Array Value) (t:TypeId) (fr:Nat × Nat) (n j:Nat) (hn:n=w.heap.size):(w.alloc (.cells C t fr)).cell? ⟨n,j,none⟩=C[j]?:=by
 subst hn;exact World.cell?_alloc_mark w C t fr j
def Ob (lo:Nat) (e:TypeId) (w:World) (v:Value) (l:List UInt8):Prop:=w.ownsRow lo e 1 v l.length (u8s l)
section
variable {lo:Nat} {e:TypeId} {w w':World} {v:Value} {l:List UInt8}
theorem Ob.mono (h:Ob lo e w v l) (hb:Ext w w'):Ob lo e w' v l:=Xle h hb
theorem Ob.agree (h:Ob lo e w v l) (hb:XbX lo w.heap.size w w'):Ob lo e w' v l:=XgB h hb
theorem Ob.weak {lo':Nat} (h:Ob lo e w v l) (hl:lo'≤lo):Ob lo' e w v l:=Xlf h hl
theorem Ob.nil (lo:Nat) (e:TypeId) (w:World):Ob lo e w (.slice none 0 0) []:=World.ownsRow_nil _ _ _ _
theorem Ob.drew (h:Ob lo e w v l):Ob lo e w.drew v l:=World.ownsRow.drew h
theorem Ob.new (w:World) (lo g:Nat) (e:TypeId) (hg:g=w.heap.size) (h:lo≤w.heap.size):Ob lo e (w.alloc (.cells #[] e)) (.slice (some ⟨g,0,none⟩) 0 0) []:=Xuf w lo g e 1 hg h
theorem Bs.fin {t:Array Obj} {d d' lo':Nat} {v':Value} {l':List UInt8} (h:Bs lo (w.ext t d) v l) (hs:w'.heap.size=w.heap.size) (hl:w.heap.size≤lo) (hlo:lo'≤lo) (hv:v'=v) (hll:l'=l):Bs lo' (w'.ext t d') v' l':=by
 subst hv hll;exact (h.agree (XbX.tail hs hl)).weak hlo
theorem Bs.tail {w':World} {t:Array Obj} {d d':Nat} (h:Bs lo (w.ext t d) v l) (hs:w'.heap.size=w.heap.size) (hl:w.heap.size≤lo):Bs lo (w'.ext t d') v l:=h.agree (XbX.tail hs hl)
theorem Ob.tail {w':World} {t:Array Obj} {d d':Nat} (h:Ob lo e (w.ext t d) v l) (hs:w'.heap.size=w.heap.size) (hl:w.heap.size≤lo):Ob lo e (w'.ext t d') v l:=h.agree (XbX.tail hs hl)
end
section
variable {P:Program} {ops:Array Oper} {rest:List Oper} {o:Oper} {a:Act} {Q:Exit→Act→World→Prop}
end
def unb (l:List Value):List UInt8:=l.map fun v=>match v with|.int _ n=>UInt8.ofNat n.toNat|_=>0
@[simp,go_sem] theorem XxK (l:List Value):(unb l).length=l.length:=by simp [unb]
theorem Ob.block (w:World) (lo g n:Nat) (C:Array Value) (e:TypeId) (l:List UInt8) (hg:g=w.heap.size) (hlo:lo≤g) (hC:C.toList=u8s l) (hn:n=l.length) (hm:n≤maxLen):Ob lo e (w.alloc (.cells C e)) (.slice (some ⟨g,0,none⟩) n n) l:=by
 subst hg hn
 have:=World.ownsRow_lit (size:=1) (e:=e) w C l.length hlo hm (by rw [←Array.length_toList,hC,XkC,Nat.mul_one])
 rw [hC] at this
 exact this
theorem Ob.lit (w:World) (lo g n:Nat) (C:List Value) (e:TypeId) (hg:g=w.heap.size) (hlo:lo≤g) (hC:C=u8s (unb C)) (hn:n=C.length) (hm:n≤maxLen):Ob lo e (w.alloc (.cells C.toArray e)) (.slice (some ⟨g,0,none⟩) n n) (unb C):=
 Ob.block w lo g n C.toArray e (unb C) hg hlo hC (by rw [hn];simp [unb]) hm
section
variable {P:Program} {ops:Array Oper} {rest:List Oper} {o:Oper} {a:Act} {Q:Exit→Act→World→Prop}
end
def bs (l:List UInt8):ByteArray:=⟨l.toArray⟩
@[simp,go_sem] theorem Xvg (l:List UInt8):(bs l).toList=l:=by simp [bs,ByteArray.toList_eq]
@[simp,go_sem] theorem Xxd (l:List UInt8):(bs l).data.toList=l:=by simp [bs]
@[simp,go_sem] theorem Xxf (l:List UInt8):(bs l).size=l.length:=by simp [bs,ByteArray.size]
@[simp,go_sem] theorem Xvf (l m:List UInt8):bs l++bs m=bs (l++m):=by
 apply ByteArray.ext;simp [bs,ByteArray.data_append]
section
variable {P:Program}
end
open Go.RowKit
def gN:Nat:=14
structure Gw (w:World):Prop where
 errs:w.cell? ⟨7,0,none⟩=some (.iface 167 (.agg #[.pointer (some ⟨14,55,none⟩)]))
 syn:∃t v,w.cell? ⟨9,0,none⟩=some (.iface t v)
 rng:∃t v,w.cell? ⟨10,0,none⟩=some (.iface t v)
 pow:Lib.TabIs Tryz.prog w "internal/strconv.uint64pow10" .u64 Lib.pow10Tab
 le:gN≤w.heap.size
theorem XrC {w w':World} {name:String} {g:Nat} {cs:Array Value} (hg:Tryz.prog.globalNamed name=some g) (h:w.var? Tryz.prog name=some cs) (hb:w'.heap[g]?=w.heap[g]?):w'.var? Tryz.prog name=some cs:=by
 simp only [World.var?,hg,Option.bind_some] at h ⊢
 rw [hb];exact h
theorem Gw.keep {w w':World} (h:Gw w) (hb:∀k,k < gN→w'.heap[k]?=w.heap[k]?):Gw w':=by
 refine ⟨?_,?_,?_,XrC (g:=11) (by kernel_rfl) h.pow (hb _ (by decide)),?_⟩
 ·rw [World.cell?_of_block (a:=⟨7,0,none⟩) (hb _ (by decide))];exact h.errs
 ·rw [World.cell?_of_block (a:=⟨9,0,none⟩) (hb _ (by decide))];exact h.syn
 ·rw [World.cell?_of_block (a:=⟨10,0,none⟩) (hb _ (by decide))];exact h.rng
 ·have hl:=h.le
  have h0:w.heap[gN - 1]?≠none:=by
   have h1:1≤gN:=by decide
   rw [ne_eq,Array.getElem?_eq_none_iff];omega
  rw [←hb (gN - 1) (by decide)] at h0
  rw [ne_eq,Array.getElem?_eq_none_iff] at h0
  have h1:1≤gN:=by decide
  omega
/-! The sentinels of package check: what the variables hold, and where they point; a walk is about whatever such places. -/
def Xrk:List Nat:=[0,2,3,4,5,6,1]
def Xux:TypeId:=293
def Xh4 (ad:Nat→Addr) (i:Nat):Value:=.iface Xux (.pointer (some (ad i)))
def XxF (ad:Nat→Addr) (k:Nat):Prop:=k∈Xrk∨∃i,i < Xrk.length∧k=(ad i).block
structure XgV (ad:Nat→Addr) (w:World):Prop where
 sens:∀i g,Xrk[i]?=some g→w.cell? ⟨g,0,none⟩=some (Xh4 ad i)
 blk:∀i,i < Xrk.length→∃c t,w.heap[(ad i).block]?=some (.cells c t (0,0))
theorem XgV.lt {ad:Nat→Addr} {w:World} (h:XgV ad w):∀k,XxF ad k→k < w.heap.size:=by
 intro k hk
 rcases hk with hk|⟨i,hi,rfl⟩
 ·obtain ⟨i,hi,rfl⟩:=List.getElem_of_mem hk
  exact World.block_lt_of_cell? w _ (h.sens i _ (List.getElem?_eq_getElem hi))
 ·obtain ⟨c,t,e⟩:=h.blk i hi
  exact (Array.getElem?_eq_some_iff.1 e).1
theorem XgV.keep {ad:Nat→Addr} {w w':World} (h:XgV ad w) (hb:∀k,XxF ad k→w'.heap[k]?=w.heap[k]?):XgV ad w':=
 ⟨fun i g hg=>by rw [World.cell?_of_block (a:=⟨g,0,none⟩) (hb g (.inl (List.mem_of_getElem? hg)))];exact h.sens i g hg,fun i hi=>by rw [hb _ (.inr ⟨i,hi,rfl⟩)];exact h.blk i hi⟩
def GL (O:Nat→Prop) (w:World):Prop:=(∀k,k < gN→¬O k)∧Gw w
theorem GL.mono {O O':Nat→Prop} {w:World} (h:GL O w) (ho:∀k,O' k→O k):GL O' w:=⟨fun k hk hn=>h.1 k hk (ho k hn),h.2⟩
theorem GL.none {w:World} (h:Gw w):GL (fun _=>False) w:=⟨fun _ _ h=>h,h⟩
end Go.Proofs.YtdlblokjfoggpaaGreatDoor
