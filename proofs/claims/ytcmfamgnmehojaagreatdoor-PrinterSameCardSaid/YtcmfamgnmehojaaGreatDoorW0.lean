import Derived.WalkKit
import Derived.WalkSpells
import Derived.WalkLawsBesides
import Derived.Handy
import Derived.Lib.Hide
import Derived.Laws.AppendOwnNone
import Derived.Laws.BytesArg
import Derived.Lib.SliceRun
import Derived.Lib.AppendStr
import Derived.Lib.SlBytesConst
import Derived.Deep.LoopGhost
import Derived.BigQuiet
import Derived.Deep.QuietTactic
import Derived.Deep.RegionWith
import Derived.Deep.RegionLaw
import Derived.Deep.CutBlock
import Derived.Deep.DeepCutAuto
import Derived.Test.YtcmfamgnmehojaaGreatDoorRows
import Derived.Shelf.Strings.Builder1
import Derived.Shelf.Small.Strs
import Derived.Shelf.Pu.ParseUintPublic10
import Derived.Shelf.Slices.Turned
import Derived.Shelf.Slices.Equal
/- The base of the walks: what a slice value shows, how long it lasts, and the append onto a row that the call owns. No program in sight. -/
set_option linter.unusedSimpArgs false
set_option linter.unusedVariables false
set_option maxRecDepth 100000
set_option maxHeartbeats 8000000
namespace Go.Proofs.YtcmfamgnmehojaaGreatDoor
abbrev Xpm := @Nat.le_of_ble_eq_true
abbrev Xpn := @List.Perm.refl
abbrev Xpo := @List.foldl_cons
abbrev Xpp := @List.foldl_nil
abbrev Xpq := @List.length_cons
abbrev Xpr := @List.append_eq
abbrev Xps := @List.map_cons
abbrev Xpt := @List.length_nil
abbrev Xpu := @List.replicate_succ
abbrev Xpv := @List.replicate_zero
abbrev Xpw := @List.map_nil
abbrev Xpx := @List.nil_append
abbrev Xpy := @List.cons_append
abbrev Xpz := @List.length_append
abbrev XpA := @List.perm_middle
abbrev XpB := @List.set_cons_zero
abbrev XpC := @List.set_cons_succ
abbrev XpD := @List.Perm.cons
abbrev XpE := @beq_eq_false_iff_ne
open Go.RowKit
/-! ### Worlds -/
def XbX (lo hi:Nat) (w w':World):Prop:=∀k,lo≤k→k < hi→w'.heap[k]?=w.heap[k]?
theorem XbX.refl (lo hi:Nat) (w:World):XbX lo hi w w:=fun _ _ _=>rfl
theorem XbX.trans {lo hi:Nat} {a b c:World} (h:XbX lo hi a b) (k:XbX lo hi b c):XbX lo hi a c:=fun i h1 h2=>(k i h1 h2).trans (h i h1 h2)
theorem XbX.setCell {lo hi:Nat} {a w:World} (h:XbX lo hi a w) {p:Addr} (hp:p.block < lo∨hi≤p.block) (u:Value):XbX lo hi a (w.setCell p u):=
 fun k h1 h2=>(Below.heap_setCell _ _ _ _ (by omega)).trans (h k h1 h2)
theorem XbX.alloc {lo hi:Nat} {a w:World} (h:XbX lo hi a w) (hB:hi≤w.heap.size) (o:Obj):XbX lo hi a (w.alloc o):=
 fun k h1 h2=>(Below.heap_alloc _ _ _ (by omega)).trans (h k h1 h2)
theorem XbX.drew {lo hi:Nat} {a w:World} (h:XbX lo hi a w):XbX lo hi a w.drew:=h
theorem XbX.mono {lo hi lo' hi':Nat} {w w':World} (h:XbX lo hi w w') (h1:lo≤lo') (h2:hi'≤hi):XbX lo' hi' w w':=fun k a b=>h k (by omega) (by omega)
theorem XbX.of_below {B lo hi:Nat} {w w':World} (h:Below B w w') (hh:hi≤B):XbX lo hi w w':=fun k _ b=>h.block k (by omega)
theorem XbX.cell {lo hi:Nat} {w w':World} (h:XbX lo hi w w') {a:Addr} (h1:lo≤a.block) (h2:a.block < hi):w'.cell? a=w.cell? a:=World.cell?_of_block (h a.block h1 h2)
abbrev Ext (w w':World):Prop:=Below w.heap.size w w'
theorem Ext.tr {a b c:World} (h:Ext a b) (k:Ext b c):Ext a c:=Below.trans h (k.mono h.size)
theorem Ext.al (w:World) (o:Obj):Ext w (w.alloc o):=(Below.refl _ _).alloc (Nat.le_refl _) o
theorem Ext.agree {w w':World} (h:Ext w w') (lo:Nat):XbX lo w.heap.size w w':=XbX.of_below h (Nat.le_refl _)
theorem Ext.blk {W w1:World} (hb:Ext W w1) (b:Nat) (vs:Array Value) (hl:b < W.heap.size) (h:(∀o,W.cell? ⟨b,o,none⟩=vs[o]?)∧∀o,W.frozen? ⟨b,o,none⟩=false) :
  (∀o,w1.cell? ⟨b,o,none⟩=vs[o]?)∧∀o,w1.frozen? ⟨b,o,none⟩=false:=
 ⟨fun o=>(hb.cell (p:=⟨b,o,none⟩) hl).trans (h.1 o),fun o=>(hb.frozen (p:=⟨b,o,none⟩) hl).trans (h.2 o)⟩
theorem Below.blk {B:Nat} {W w1:World} (hb:Below B W w1) (b:Nat) (vs:Array Value) (hl:b < B) (h:(∀o,W.cell? ⟨b,o,none⟩=vs[o]?)∧∀o,W.frozen? ⟨b,o,none⟩=false) :
  (∀o,w1.cell? ⟨b,o,none⟩=vs[o]?)∧∀o,w1.frozen? ⟨b,o,none⟩=false:=
 ⟨fun o=>(hb.cell (p:=⟨b,o,none⟩) hl).trans (h.1 o),fun o=>(hb.frozen (p:=⟨b,o,none⟩) hl).trans (h.2 o)⟩
@[go_sem] theorem Xnf {a b k:Nat} (h:a < b):(a < b+k)=True:=eq_true (Nat.lt_add_right k h)
end Go.Proofs.YtcmfamgnmehojaaGreatDoor
namespace Go
def World.ext (w:World) (t:Array Obj) (d:Nat):World:={ w with heap:=w.heap++t,drawn:=d }
end Go
namespace Go.Proofs.YtcmfamgnmehojaaGreatDoor
open Go.RowKit
section
variable {w w1:World} {t:Array Obj} {d:Nat}
@[simp] theorem World.size_ext:(w.ext t d).heap.size=w.heap.size+t.size:=by simp [World.ext]
@[simp] theorem World.tape_ext:(w.ext t d).tape=w.tape:=rfl
theorem XeJ {k:Nat} (hk:k < w.heap.size):(w.ext t d).heap[k]?=w.heap[k]?:=by
 show (w.heap++t)[k]?=_
 rw [Array.getElem?_append_left hk]
theorem XhE {k:Nat} (hk:w.heap.size≤k):(w.ext t d).heap[k]?=t[k - w.heap.size]?:=by
 show (w.heap++t)[k]?=_
 rw [Array.getElem?_append_right hk]
@[go_sem] theorem cell?_ext (n i:Nat) (hn:n < w.heap.size):(w.ext t d).cell? ⟨n,i,none⟩=w.cell? ⟨n,i,none⟩:=World.cell?_of_block (XeJ hn)
@[go_sem] theorem frozen?_ext (n i:Nat) (hn:n < w.heap.size):(w.ext t d).frozen? ⟨n,i,none⟩=w.frozen? ⟨n,i,none⟩:=World.frozen?_of_block (XeJ hn)
@[go_sem] theorem Xhm (n i:Nat) (v:Value) (hn:n < w.heap.size):(w.ext t d).setCell ⟨n,i,none⟩ v=(w.setCell ⟨n,i,none⟩ v).ext t d:=by
 simp only [World.setCell,World.ext,World.mk.injEq,and_true]
 apply Array.ext_getElem?
 intro k
 by_cases hk:k < w.heap.size
 ·rw [Array.getElem?_append_left (by simpa using hk),Array.getElem?_modify,Array.getElem?_modify,Array.getElem?_append_left hk]
 ·rw [Array.getElem?_append_right (by simpa using Nat.le_of_not_lt hk),Array.getElem?_modify,if_neg (by omega),Array.getElem?_append_right (by omega)]
  simp
@[go_sem] theorem cell?_ext1 (o:Obj) (n i:Nat) (hn:n < w.heap.size):((w.ext t d).alloc o).cell? ⟨n,i,none⟩=w.cell? ⟨n,i,none⟩:=(World.cell?_alloc_lt _ o ⟨n,i,none⟩ (by simp;omega)).trans (cell?_ext n i hn)
@[go_sem] theorem frozen?_ext1 (o:Obj) (n i:Nat) (hn:n < w.heap.size):((w.ext t d).alloc o).frozen? ⟨n,i,none⟩=w.frozen? ⟨n,i,none⟩:=(World.frozen?_alloc_old _ o ⟨n,i,none⟩ (by simp;omega)).trans (frozen?_ext n i hn)
@[go_sem] theorem Xgr (o:Obj) (n i:Nat) (v:Value) (hn:n < w.heap.size):((w.ext t d).alloc o).setCell ⟨n,i,none⟩ v=((w.setCell ⟨n,i,none⟩ v).ext t d).alloc o:=by
 rw [World.setCell_alloc_past o n i v (by simp;omega),Xhm n i v hn]
@[go_sem] theorem cell?_ext2 (o o2:Obj) (n i:Nat) (hn:n < w.heap.size):(((w.ext t d).alloc o).alloc o2).cell? ⟨n,i,none⟩=w.cell? ⟨n,i,none⟩:=(World.cell?_alloc_lt _ o2 ⟨n,i,none⟩ (by simp;omega)).trans (cell?_ext1 o n i hn)
@[go_sem] theorem frozen?_ext2 (o o2:Obj) (n i:Nat) (hn:n < w.heap.size):(((w.ext t d).alloc o).alloc o2).frozen? ⟨n,i,none⟩=w.frozen? ⟨n,i,none⟩:=(World.frozen?_alloc_old _ o2 ⟨n,i,none⟩ (by simp;omega)).trans (frozen?_ext1 o n i hn)
@[go_sem] theorem Xgs (o o2:Obj) (n i:Nat) (v:Value) (hn:n < w.heap.size):(((w.ext t d).alloc o).alloc o2).setCell ⟨n,i,none⟩ v=(((w.setCell ⟨n,i,none⟩ v).ext t d).alloc o).alloc o2:=by
 rw [World.setCell_alloc_past o2 n i v (by simp;omega),Xgr o n i v hn]
@[go_sem] theorem cell?_ext3 (o o2 o3:Obj) (n i:Nat) (hn:n < w.heap.size):((((w.ext t d).alloc o).alloc o2).alloc o3).cell? ⟨n,i,none⟩=w.cell? ⟨n,i,none⟩:=(World.cell?_alloc_lt _ o3 ⟨n,i,none⟩ (by simp;omega)).trans (cell?_ext2 o o2 n i hn)
@[go_sem] theorem frozen?_ext3 (o o2 o3:Obj) (n i:Nat) (hn:n < w.heap.size):((((w.ext t d).alloc o).alloc o2).alloc o3).frozen? ⟨n,i,none⟩=w.frozen? ⟨n,i,none⟩:=(World.frozen?_alloc_old _ o3 ⟨n,i,none⟩ (by simp;omega)).trans (frozen?_ext2 o o2 n i hn)
@[go_sem] theorem XlT (o o2 o3:Obj) (n i:Nat) (v:Value) (hn:n < w.heap.size):((((w.ext t d).alloc o).alloc o2).alloc o3).setCell ⟨n,i,none⟩ v=((((w.setCell ⟨n,i,none⟩ v).ext t d).alloc o).alloc o2).alloc o3:=by
 rw [World.setCell_alloc_past o3 n i v (by simp;omega),Xgs o o2 n i v hn]
@[go_sem] theorem Xop:(w.ext t d).drew=w.ext t (d+1):=rfl
@[go_sem] theorem Xon:w.drew.ext t d=w.ext t d:=rfl
theorem Below.ext {B:Nat} {a w:World} (h:Below B a w) (hB:B≤w.heap.size) (t:Array Obj) (d:Nat):Below B a (w.ext t d):=
 h.trans ⟨rfl,rfl,rfl,by simp,fun k hk=>XeJ (by omega)⟩
theorem Below.drewN {B:Nat} {a w:World} (h:Below B a w) (n:Nat):Below B a (w.drewN n):=⟨h.os,h.tape,h.output,h.size,h.block⟩
@[go_sem] theorem XnE (n:Nat):(w.ext t d).drewN n=w.ext t (d+n):=rfl
@[go_sem] theorem Xnw (n:Nat):(w.drewN n).ext t d=w.ext t d:=rfl
theorem Ext.ext (w:World) (t:Array Obj) (d:Nat):Ext w (w.ext t d):=Below.ext (Below.refl _ _) (Nat.le_refl _) t d
@[go_sem] theorem Xmk (w:World) (t t2:Array Obj) (d d2:Nat):(w.ext t d).ext t2 d2=w.ext (t++t2) d2:=by simp [World.ext,Array.append_assoc]
theorem Ext.app (w:World) (t t2:Array Obj) (d d2:Nat):Ext (w.ext t d) (w.ext (t++t2) d2):=by rw [←Xmk w t t2 d d2];exact Ext.ext _ _ _
theorem XbX.tail {w w':World} {t:Array Obj} {d d' lo hi:Nat} (hs:w'.heap.size=w.heap.size) (hl:w.heap.size≤lo):XbX lo hi (w.ext t d) (w'.ext t d'):=by
 intro k h1 h2
 rw [XhE (by omega),XhE (by omega),hs]
end
/-! ### Slices -/
def Sl (lo:Nat) (w:World) (v:Value) (n:Nat) (xs:List Value):Prop:=
 ∃ad cap,v=.slice ad n cap∧n≤cap∧cap≤maxLen∧(ad=none→cap=0)∧(∀x,ad=some x→lo≤x.block) ∧
  ∀j u,xs[j]?=some u→∃x,ad=some x∧w.cell? (x.add j)=some u
section
variable {lo:Nat} {w w':World} {v:Value} {n:Nat} {xs:List Value}
theorem Sl.nil (lo:Nat) (w:World):Sl lo w (.slice none 0 0) 0 []:=⟨none,0,rfl,Nat.le_refl _,by simp [maxLen],fun _=>rfl,fun x h=>(by cases h),fun j u h=>(by simp at h)⟩
theorem Sl.le (h:Sl lo w v n xs):n≤maxLen:=by
 obtain ⟨ad,cap,rfl,h1,h2,_⟩:=h;omega
theorem Sl.shape (h:Sl lo w v n xs):∃ad cap,v=.slice ad n cap∧n≤cap:=by
 obtain ⟨ad,cap,rfl,hn,_⟩:=h;exact ⟨ad,cap,rfl,hn⟩
theorem Addr.add_block (x:Addr) (j:Nat):(x.add j).block=x.block:=by unfold Addr.add;split<;>rfl
theorem Sl.agree (h:Sl lo w v n xs) (hc:XbX lo w.heap.size w w'):Sl lo w' v n xs:=by
 obtain ⟨ad,cap,rfl,h1,h2,h3,h5,h4⟩:=h
 refine ⟨ad,cap,rfl,h1,h2,h3,h5,fun j u hj=>?_⟩
 obtain ⟨x,hx,hu⟩:=h4 j u hj
 refine ⟨x,hx,?_⟩
 have hlt:=World.block_lt_of_cell? w _ hu
 rw [hc.cell (by rw [Addr.add_block];exact h5 x hx) hlt];exact hu
theorem Sl.mono (h:Sl lo w v n xs) (hb:Ext w w'):Sl lo w' v n xs:=h.agree (hb.agree lo)
theorem Sl.weak {lo':Nat} (h:Sl lo w v n xs) (hl:lo'≤lo):Sl lo' w v n xs:=by
 obtain ⟨ad,cap,rfl,h1,h2,h3,h5,h4⟩:=h
 exact ⟨ad,cap,rfl,h1,h2,h3,fun x hx=>Nat.le_trans hl (h5 x hx),h4⟩
theorem Sl.own {base:Nat} {e:TypeId} {size:Nat} (h:w.ownsRow base e size v n xs):Sl base w v n xs:=by
 obtain ⟨hl,⟨rfl,rfl⟩|⟨g,cap,cur,rfl,hbg,hg,hn,hm,hs,ht⟩⟩:=h
 ·have:xs=[]:=List.eq_nil_of_length_eq_zero (by simpa using hl)
  subst this;exact Sl.nil _ w
 ·refine ⟨_,_,rfl,hn,hm,(by intro h;cases h),(by intro x hx;cases hx;exact hbg),fun j u hj=>⟨_,rfl,?_⟩⟩
  have hadd:(⟨g,0,none⟩:Addr).add j=⟨g,j,none⟩:=by unfold Addr.add;split<;>simp_all
  rw [hadd,cell_of_row w g j cur e (0,0) hg]
  have hjl:j < xs.length:=(List.getElem?_eq_some_iff.1 hj).1
  rw [←ht,List.getElem?_take,if_pos (by omega)] at hj
  simpa using hj
theorem Sl.split (h:Sl lo w v n xs):∃ad cap,v=.slice ad n cap∧n≤cap∧cap≤maxLen∧(ad=none→cap=0) ∧
  (xs=[]∨∃b o,ad=some ⟨b,o,none⟩∧b < w.heap.size∧∀j u,xs[j]?=some u→w.cell? ⟨b,o+j,none⟩=some u):=by
 obtain ⟨ad,cap,rfl,h1,h2,h3,_,h4⟩:=h
 refine ⟨ad,cap,rfl,h1,h2,h3,?_⟩
 cases xs with
 | nil=>exact .inl rfl
 | cons y ys=>
   obtain ⟨⟨b,o,sp⟩,rfl,hx⟩:=h4 0 y rfl
   have hs:sp=none:=by
    cases sp with
    | none=>rfl
    | some q=>simp [Addr.add,World.cell?] at hx;split at hx<;>simp at hx
   subst hs
   have hlt:=World.block_lt_of_cell? w _ hx
   refine .inr ⟨b,o,rfl,by simpa [Addr.add_block] using hlt,fun j u hj=>?_⟩
   obtain ⟨x,hx,hu⟩:=h4 j u hj
   cases hx
   have hadd:(⟨b,o,none⟩:Addr).add j=⟨b,o+j,none⟩:=by unfold Addr.add;split<;>simp_all
   rwa [hadd] at hu
theorem XeW {base:Nat} {e:TypeId} {size:Nat} (h:w.ownsRow base e size v n xs) (hc:XbX base w.heap.size w w'):w'.ownsRow base e size v n xs:=by
 obtain ⟨hl,hn|⟨g,cap,cur,rfl,hbg,hg,r⟩⟩:=h
 ·exact ⟨hl,.inl hn⟩
 ·exact ⟨hl,.inr ⟨g,cap,cur,rfl,hbg,(hc g hbg (Array.getElem?_eq_some_iff.1 hg).1).trans hg,r⟩⟩
theorem XhP {base:Nat} {e:TypeId} {size:Nat} (h:w.ownsRow base e size v n xs) (hc:Ext w w'):w'.ownsRow base e size v n xs:=XeW h (hc.agree _)
theorem XhQ {base base':Nat} {e:TypeId} {size:Nat} (h:w.ownsRow base e size v n xs) (hb:base'≤base):w.ownsRow base' e size v n xs:=by
 obtain ⟨hl,hn|⟨g,cap,cur,rfl,hbg,r⟩⟩:=h
 ·exact ⟨hl,.inl hn⟩
 ·exact ⟨hl,.inr ⟨g,cap,cur,rfl,by omega,r⟩⟩
theorem XmS (w:World) (lo g:Nat) (e:TypeId) (size:Nat) (hg:g=w.heap.size) (h:lo≤w.heap.size):(w.alloc (.cells #[] e)).ownsRow lo e size (.slice (some ⟨g,0,none⟩) 0 0) 0 []:=by
 subst hg;exact World.ownsRow_lit w #[] 0 h (Nat.zero_le _) (by simp)
end
/-! ### append -/
def Xol (n bytes:Nat):Prop:=n*bytes≤140737488355328∧n≤maxLen
theorem Xdj (n bytes:Nat) (h:n≤10000000) (hb:bytes≤100000):Xol n bytes:=by
 have:n*bytes≤10000000*100000:=Nat.mul_le_mul h hb
 exact ⟨by omega,by unfold maxLen;omega⟩
structure Xd9 (P:Program) (t e:TypeId) (z:Value) (size bytes:Nat):Prop where
 under:P.underlying t=some (.slice e)
 info:(P.info? e).map (fun i=>(i.zero,i.size,i.bytes))=some (some z,size,bytes)
 zs:z.cells.size=size
 pos:0 < size
section
variable {P:Program} {ops:Array Oper} {rest:List Oper} {o:Oper} {a:Act} {Q:Exit→Act→World→Prop}
end
section
variable {P:Program}
@[go_sem] theorem XkJ (w:World) (t:TypeId) (a:Option Addr) (n c n' c':Nat) (h:P.underlying t=some (.slice (P.elem t))) :
  (binOp .eql t (.slice a n c) (.slice none n' c')).run P w=.ok (.bool a.isNone) w:=Lib.run_eql_slice_nil w t _ a n c n' c' h
@[go_sem] theorem Xk1 (w:World) (t:TypeId) (a:Option Addr) (n c n' c':Nat) (h:P.underlying t=some (.slice (P.elem t))) :
  (binOp .neq t (.slice a n c) (.slice none n' c')).run P w=.ok (.bool (!a.isNone)) w:=run_neq_slice_nil_any w t _ a n c n' c' h
end
/-! ### Bytes -/
def u8s (l:List UInt8):List Value:=l.map fun b=>.int .u8 b.toNat
theorem Xko (l:List UInt8):(u8s l).length=l.length:=by simp [u8s]
theorem Xm9 (l:List UInt8):∀u∈u8s l,u.oneCell'=true:=by
 intro u hu;obtain ⟨b,_,rfl⟩:=List.mem_map.1 hu;rfl
def Bs (lo:Nat) (w:World) (v:Value) (l:List UInt8):Prop:=Sl lo w v l.length (u8s l)
section
variable {lo:Nat} {w w':World} {v:Value} {l:List UInt8}
theorem Bs.mono (h:Bs lo w v l) (hb:Ext w w'):Bs lo w' v l:=Sl.mono h hb
theorem Bs.agree (h:Bs lo w v l) (hb:XbX lo w.heap.size w w'):Bs lo w' v l:=Sl.agree h hb
theorem Bs.weak {lo':Nat} (h:Bs lo w v l) (hl:lo'≤lo):Bs lo' w v l:=Sl.weak h hl
theorem Bs.nil (lo:Nat) (w:World):Bs lo w (.slice none 0 0) []:=Sl.nil lo w
theorem Bs.drew (h:Bs lo w v l):Bs lo w.drew v l:=h
theorem Bs.le (h:Bs lo w v l):l.length≤maxLen:=Sl.le h
theorem Bs.shape (h:Bs lo w v l):∃ad cap,v=.slice ad l.length cap∧l.length≤cap:=Sl.shape h
theorem Bs.take {ad:Option Addr} {n cap:Nat} (h:Bs lo w (.slice ad n cap) l) (k:Nat) (hk:k≤l.length):Bs lo w (.slice ad k cap) (l.take k):=by
 obtain ⟨ad',cap',e,h1,h2,h3,h5,h4⟩:=h
 cases e
 have hkl:(l.take k).length=k:=by simp;omega
 refine ⟨ad,cap,by rw [hkl],by omega,h2,h3,h5,fun j u hj=>?_⟩
 have hj':(u8s l)[j]?=some u:=by
  rw [u8s,List.getElem?_map] at hj ⊢
  rw [List.getElem?_take] at hj
  split at hj
  ·exact hj
  ·simp at hj
 exact h4 j u hj'
theorem Bs.drop {ad:Option Addr} {n cap:Nat} (h:Bs lo w (.slice ad n cap) l) (k:Nat) (hk:k≤l.length):Bs lo w (.slice (if cap=k then ad else ad.map (·.add k)) (n - k) (cap - k)) (l.drop k):=by
 obtain ⟨ad',cap',e,h1,h2,h3,h5,h4⟩:=h
 cases e
 refine ⟨_,_,by rw [List.length_drop],by rw [List.length_drop];omega,by omega,?_,?_,fun j u hj=>?_⟩
 ·intro he
  split at he
  ·have:=h3 he;omega
  ·cases ad with
   | none=>have:=h3 rfl;omega
   | some x=>simp at he
 ·intro x hx
  split at hx
  ·exact h5 x hx
  ·cases ad with
   | none=>simp at hx
   | some y=>simp at hx;subst hx;rw [Addr.add_block];exact h5 y rfl
 ·have hj':(u8s l)[k+j]?=some u:=by
   rw [u8s,List.getElem?_map] at hj ⊢
   rwa [List.getElem?_drop] at hj
  obtain ⟨x,rfl,hx⟩:=h4 _ u hj'
  have hne:cap≠k:=by
   have hlt:=(List.getElem?_eq_some_iff.1 hj').1
   rw [Xko] at hlt;omega
  refine ⟨x.add k,by rw [if_neg hne];rfl,?_⟩
  have:(x.add k).add j=x.add (k+j):=by
   unfold Addr.add
   by_cases hk0:k=0
   ·subst hk0;simp
   ·by_cases hj0:j=0
    ·subst hj0;simp [hk0]
    ·have:k+j≠0:=by omega
     simp [hk0,hj0];omega
  rw [this];exact hx
theorem Bs.own {base:Nat} {e:TypeId} (h:w.ownsRow base e 1 v l.length (u8s l)):Bs base w v l:=Sl.own h
end
theorem Bs.block (w:World) (lo g n c:Nat) (C:Array Value) (e:TypeId) (fr:Nat × Nat) (l:List UInt8) (hg:g=w.heap.size) (hlo:lo≤g) (hC:C.toList=u8s l) (hn:n=l.length) (hnc:n≤c) (hc:c≤maxLen):Bs lo (w.alloc (.cells C e fr)) (.slice (some ⟨g,0,none⟩) n c) l:=by
 subst hg hn
 refine ⟨_,_,rfl,hnc,hc,(by intro h;cases h),(by intro x hx;cases hx;exact hlo),fun j u hj=>⟨_,rfl,?_⟩⟩
 have hadd:(⟨w.heap.size,0,none⟩:Addr).add j=⟨w.heap.size,j,none⟩:=by unfold Addr.add;split<;>simp_all
 rw [hadd,World.cell?_alloc_mark,←Array.getElem?_toList,hC,hj]
section
variable {P:Program}
@[go_sem] theorem XiL (w:World) (t e:TypeId) (C:Array Value) (g n c:Nat) (hg:g=w.heap.size) (ht:P.underlying t=some (.slice (P.elem t))) (he:P.elem t=e) (hu:P.underlying e=some (.int .u8)) :
  (convert t t (.slice (some ⟨g,0,none⟩) n c)).run P (w.alloc (.cells C e))=.ok (.slice (some ⟨g,0,none⟩) n c) (w.alloc (.cells C e (C.size,C.size+1))):=by
 subst hg he;exact Lib.run_convert_bytes_const w t _ C n c ht hu
end
@[go_sem] theorem cell?_alloc_at_mark (w:World) (C:Array Value) (t:TypeId) (fr:Nat × Nat) (n j:Nat) (hn:n=w.heap.size):(w.alloc (.cells C t fr)).cell? ⟨n,j,none⟩=C[j]?:=by
 subst hn;exact World.cell?_alloc_mark w C t fr j
def Ob (lo:Nat) (e:TypeId) (w:World) (v:Value) (l:List UInt8):Prop:=w.ownsRow lo e 1 v l.length (u8s l)
section
variable {lo:Nat} {e:TypeId} {w w':World} {v:Value} {l:List UInt8}
theorem Ob.mono (h:Ob lo e w v l) (hb:Ext w w'):Ob lo e w' v l:=XhP h hb
theorem Ob.agree (h:Ob lo e w v l) (hb:XbX lo w.heap.size w w'):Ob lo e w' v l:=XeW h hb
theorem Ob.weak {lo':Nat} (h:Ob lo e w v l) (hl:lo'≤lo):Ob lo' e w v l:=XhQ h hl
theorem Ob.nil (lo:Nat) (e:TypeId) (w:World):Ob lo e w (.slice none 0 0) []:=World.ownsRow_nil _ _ _ _
theorem Ob.drew (h:Ob lo e w v l):Ob lo e w.drew v l:=World.ownsRow.drew h
theorem Ob.new (w:World) (lo g:Nat) (e:TypeId) (hg:g=w.heap.size) (h:lo≤w.heap.size):Ob lo e (w.alloc (.cells #[] e)) (.slice (some ⟨g,0,none⟩) 0 0) []:=XmS w lo g e 1 hg h
theorem Bs.fin {t:Array Obj} {d d' lo':Nat} {v':Value} {l':List UInt8} (h:Bs lo (w.ext t d) v l) (hs:w'.heap.size=w.heap.size) (hl:w.heap.size≤lo) (hlo:lo'≤lo) (hv:v'=v) (hll:l'=l):Bs lo' (w'.ext t d') v' l':=by
 subst hv hll;exact (h.agree (XbX.tail hs hl)).weak hlo
theorem Bs.tail {w':World} {t:Array Obj} {d d':Nat} (h:Bs lo (w.ext t d) v l) (hs:w'.heap.size=w.heap.size) (hl:w.heap.size≤lo):Bs lo (w'.ext t d') v l:=h.agree (XbX.tail hs hl)
theorem Ob.tail {w':World} {t:Array Obj} {d d':Nat} (h:Ob lo e (w.ext t d) v l) (hs:w'.heap.size=w.heap.size) (hl:w.heap.size≤lo):Ob lo e (w'.ext t d') v l:=h.agree (XbX.tail hs hl)
end
section
variable {P:Program} {ops:Array Oper} {rest:List Oper} {o:Oper} {a:Act} {Q:Exit→Act→World→Prop}
end
def unb (l:List Value):List UInt8:=l.map fun v=>match v with|.int _ n=>UInt8.ofNat n.toNat|_=>0
@[simp,go_sem] theorem XoT (l:List Value):(unb l).length=l.length:=by simp [unb]
theorem Ob.block (w:World) (lo g n:Nat) (C:Array Value) (e:TypeId) (l:List UInt8) (hg:g=w.heap.size) (hlo:lo≤g) (hC:C.toList=u8s l) (hn:n=l.length) (hm:n≤maxLen):Ob lo e (w.alloc (.cells C e)) (.slice (some ⟨g,0,none⟩) n n) l:=by
 subst hg hn
 have:=World.ownsRow_lit (size:=1) (e:=e) w C l.length hlo hm (by rw [←Array.length_toList,hC,Xko,Nat.mul_one])
 rw [hC] at this
 exact this
section
variable {P:Program} {ops:Array Oper} {rest:List Oper} {o:Oper} {a:Act} {Q:Exit→Act→World→Prop}
end
def bs (l:List UInt8):ByteArray:=⟨l.toArray⟩
@[simp,go_sem] theorem Xnq (l:List UInt8):(bs l).toList=l:=by simp [bs,ByteArray.toList_eq]
@[simp,go_sem] theorem XoA (l:List UInt8):(bs l).data.toList=l:=by simp [bs]
@[simp,go_sem] theorem Xd1 (l:List UInt8):(bs l).size=l.length:=by simp [bs,ByteArray.size]
@[simp,go_sem] theorem Xnp (l m:List UInt8):bs l++bs m=bs (l++m):=by
 apply ByteArray.ext;simp [bs,ByteArray.data_append]
section
variable {P:Program}
end
open Go.RowKit
theorem Xls {v n:Int} (hn:0 < n) (h:v.tmod n < 0):v.tmod n+n=v % n:=by
 rw [Int.tmod_eq_emod] at *
 have:=Int.emod_nonneg v (show n≠0 by omega)
 split at h<;>rename_i hc<;>simp [hc] at *
 ·omega
 ·omega
theorem Xlt {v n:Int} (hn:0 < n) (h:0≤v.tmod n):v.tmod n=v % n:=by
 rw [Int.tmod_eq_emod] at *
 have:=Int.emod_lt_of_pos v hn
 split<;>rename_i hc<;>simp [hc] at *
 omega
theorem Xka {a b:Int} (h:a=b):Ending.returned (.int .i64 a)=.returned (.int .i64 b):=by rw [h]
theorem XmI (v n:Int) (w:World) (hn:1≤n) (hn2:n≤9223372036854775807) (hv : -9223372036854775808≤v) (hv2:v≤9223372036854775807) :
  Calls Tryz.prog 7 #[.int .i64 v,.int .i64 n] w fun e w'=>e=.returned (.int .i64 (v % n))∧w=w':=by
 have h0:¬n=0:=by omega
 have h1:v.tmod n < n:=Int.tmod_lt_of_pos v (by omega)
 have h2 : -n < v.tmod n:=by
  have:=Int.lt_tmod_of_pos v (show 0 < n by omega);omega
 go_enter Tryz.func7,Tryz.ntmps7
 go_wp2
 all_goals go_ret
 ·exact ⟨Xka (Xls (by omega) (by assumption)),rfl⟩
 ·exact ⟨Xka (Xlt (by omega) (by assumption)),rfl⟩
open Go.Shelf
def XeT:Go.Shelf.Ren:=⟨fun|169=>23|n=>n,fun|70=>66|9=>9|0=>0|72=>69|37=>67|127=>100|3=>3|5=>5|n=>n,fun|n=>n⟩
theorem XfE:Go.Proofs.Lays.n169 Tryz.prog XeT:={
 mixed:=by kernel_rfl
 f169:=Tryz.func23.trans (congrArg some (by kernel_rfl))
 t0:=Tryz.underlying0
 a0:=Tryz.isAgg0
 z0:=Tryz.sizeOf0
 v0:=Tryz.zeroValue0
 t3:=Tryz.underlying3
 a3:=Tryz.isAgg3
 z3:=Tryz.sizeOf3
 v3:=Tryz.zeroValue3
 t9:=Tryz.underlying9
 a9:=Tryz.isAgg9
 z9:=Tryz.sizeOf9
 v9:=Tryz.zeroValue9
 t37:=Tryz.underlying67
 a37:=Tryz.isAgg67
 z37:=Tryz.sizeOf67
 v37:=Tryz.zeroValue67
 t70:=Tryz.underlying66
 a70:=Tryz.isAgg66
 z70:=Tryz.sizeOf66
 v70:=Tryz.zeroValue66
 t72:=Tryz.underlying69
 a72:=Tryz.isAgg69
 z72:=Tryz.sizeOf69
 v72:=Tryz.zeroValue69
 t127:=Tryz.underlying100
 a127:=Tryz.isAgg100
 z127:=Tryz.sizeOf100
 v127:=Tryz.zeroValue100 }
theorem Xa3:Builder.Extra Tryz.prog XeT:={
 sizeBuilder:=by kernel_rfl
 liesBuilder:=by kernel_rfl
 t5:=Tryz.underlying5
 a5:=Tryz.isAgg5
 z5:=Tryz.sizeOf5
 v5:=Tryz.zeroValue5
 infoByte:=by kernel_rfl
 cellsByte:=by kernel_rfl
 sizeByte:=by kernel_rfl
 neB5:=by decide }
open Go.RowKit in
theorem Builder_String (B b:Nat) (l:List UInt8) (w:World) (h:Lib.IsBuilder 69 5 B b (Lib.byteCells l) w) (h0:l≠[]) :
  Calls Tryz.prog 23 #[.pointer (some ⟨b,0,none⟩)] w fun e w'=>e=.returned (.string ⟨l.toArray⟩)∧Below B w w':=Any.Builder_String XfE Xa3 B b l w h h0
open Go.RowKit in
theorem Builder_String_empty (B b:Nat) (w:World) (h:Lib.IsBuilder 69 5 B b [] w) (hBw:B≤w.heap.size) :
  Calls Tryz.prog 23 #[.pointer (some ⟨b,0,none⟩)] w fun e w'=>e=.returned (.string ⟨#[]⟩)∧Below B w w':=Any.Builder_String_empty XfE Xa3 B b w h hBw
open Go.RowKit in
theorem Builder_String_any (B b:Nat) (l:List UInt8) (w:World) (h:Lib.IsBuilder 69 5 B b (Lib.byteCells l) w) (hBw:B≤w.heap.size) :
  Calls Tryz.prog 23 #[.pointer (some ⟨b,0,none⟩)] w fun e w'=>e=.returned (.string ⟨l.toArray⟩)∧Below B w w':=Any.Builder_String_any XfE Xa3 B b l w h hBw
def Xg5:Go.Shelf.Ren:=⟨fun|137=>72|217=>92|266=>107|n=>n,fun|9=>9|5=>5|3=>3|n=>n,fun|n=>n⟩
theorem Xmy:Go.Proofs.Lays.n137 Tryz.prog Xg5:={
 mixed:=by kernel_rfl
 f137:=Tryz.func72.trans (congrArg some (by kernel_rfl))
 f217:=Tryz.func92.trans (congrArg some (by kernel_rfl))
 f266:=Tryz.func107.trans (congrArg some (by kernel_rfl))
 t3:=Tryz.underlying3
 a3:=Tryz.isAgg3
 z3:=Tryz.sizeOf3
 v3:=Tryz.zeroValue3
 t5:=Tryz.underlying5
 a5:=Tryz.isAgg5
 z5:=Tryz.sizeOf5
 v5:=Tryz.zeroValue5
 t9:=Tryz.underlying9
 a9:=Tryz.isAgg9
 z9:=Tryz.sizeOf9
 v9:=Tryz.zeroValue9 }
open Go.RowKit in
theorem strings_IndexByte (s:ByteArray) (c:Int) (w:World) :
  Calls Tryz.prog 72 #[.string s,.int .u8 c] w fun e w'=>e=.returned (.int .i64 (Lib.indexByte s.data.toList c.toNat.toUInt8))∧w'=w:=Any.strings_IndexByte Xmy s c w
def Xgj:Go.Shelf.Ren:=⟨fun|14=>84|16=>95|17=>96|19=>109|20=>110|21=>111|22=>112|23=>113|24=>114|25=>123|27=>125|26=>124|28=>129|29=>130|30=>103|31=>104|32=>105|33=>106|35=>119|34=>118|36=>120|37=>121|38=>122|39=>127|40=>128|n=>n,fun|9=>9|3=>3|22=>31|24=>77|25=>154|4=>4|34=>172|5=>5|36=>130|37=>67|0=>0|39=>174|21=>21|44=>188|47=>100|50=>195|48=>193|2=>2|52=>166|55=>169|59=>182|60=>183|20=>20|61=>184|65=>196|66=>197|67=>71|n=>n,fun|0=>5|1=>6|2=>4|3=>7|4=>8|n=>n⟩
theorem XfF:Go.Proofs.LaysPu.n14 Tryz.prog Xgj:={
 mixed:=by kernel_rfl
 f14:=Tryz.func84.trans (congrArg some (by kernel_rfl))
 f16:=Tryz.func95.trans (congrArg some (by kernel_rfl))
 f17:=Tryz.func96.trans (congrArg some (by kernel_rfl))
 f19:=Tryz.func109.trans (congrArg some (by kernel_rfl))
 f20:=Tryz.func110.trans (congrArg some (by kernel_rfl))
 f21:=Tryz.func111.trans (congrArg some (by kernel_rfl))
 f22:=Tryz.func112.trans (congrArg some (by kernel_rfl))
 f23:=Tryz.func113.trans (congrArg some (by kernel_rfl))
 f24:=Tryz.func114.trans (congrArg some (by kernel_rfl))
 f25:=Tryz.func123.trans (congrArg some (by kernel_rfl))
 f26:=Tryz.func124.trans (congrArg some (by kernel_rfl))
 f27:=Tryz.func125.trans (congrArg some (by kernel_rfl))
 f28:=Tryz.func129.trans (congrArg some (by kernel_rfl))
 f29:=Tryz.func130.trans (congrArg some (by kernel_rfl))
 f30:=Tryz.func103.trans (congrArg some (by kernel_rfl))
 f31:=Tryz.func104.trans (congrArg some (by kernel_rfl))
 f32:=Tryz.func105.trans (congrArg some (by kernel_rfl))
 f33:=Tryz.func106.trans (congrArg some (by kernel_rfl))
 f34:=Tryz.func118.trans (congrArg some (by kernel_rfl))
 f35:=Tryz.func119.trans (congrArg some (by kernel_rfl))
 f36:=Tryz.func120.trans (congrArg some (by kernel_rfl))
 f37:=Tryz.func121.trans (congrArg some (by kernel_rfl))
 f38:=Tryz.func122.trans (congrArg some (by kernel_rfl))
 f39:=Tryz.func127.trans (congrArg some (by kernel_rfl))
 f40:=Tryz.func128.trans (congrArg some (by kernel_rfl))
 t0:=Tryz.underlying0
 a0:=Tryz.isAgg0
 z0:=Tryz.sizeOf0
 v0:=Tryz.zeroValue0
 i0:=by kernel_rfl
 t2:=Tryz.underlying2
 a2:=Tryz.isAgg2
 z2:=Tryz.sizeOf2
 v2:=Tryz.zeroValue2
 i2:=by kernel_rfl
 t3:=Tryz.underlying3
 a3:=Tryz.isAgg3
 z3:=Tryz.sizeOf3
 v3:=Tryz.zeroValue3
 i3:=by kernel_rfl
 t4:=Tryz.underlying4
 a4:=Tryz.isAgg4
 z4:=Tryz.sizeOf4
 v4:=Tryz.zeroValue4
 i4:=by kernel_rfl
 t5:=Tryz.underlying5
 a5:=Tryz.isAgg5
 z5:=Tryz.sizeOf5
 v5:=Tryz.zeroValue5
 i5:=by kernel_rfl
 t9:=Tryz.underlying9
 a9:=Tryz.isAgg9
 z9:=Tryz.sizeOf9
 v9:=Tryz.zeroValue9
 i9:=by kernel_rfl
 t20:=Tryz.underlying20
 a20:=Tryz.isAgg20
 z20:=Tryz.sizeOf20
 v20:=Tryz.zeroValue20
 i20:=by kernel_rfl
 t21:=Tryz.underlying21
 a21:=Tryz.isAgg21
 z21:=Tryz.sizeOf21
 v21:=Tryz.zeroValue21
 i21:=by kernel_rfl
 t22:=Tryz.underlying31
 a22:=Tryz.isAgg31
 z22:=Tryz.sizeOf31
 v22:=Tryz.zeroValue31
 i22:=by kernel_rfl
 t24:=Tryz.underlying77
 a24:=Tryz.isAgg77
 z24:=Tryz.sizeOf77
 v24:=Tryz.zeroValue77
 i24:=by kernel_rfl
 t25:=Tryz.underlying154
 a25:=Tryz.isAgg154
 z25:=Tryz.sizeOf154
 v25:=Tryz.zeroValue154
 i25:=by kernel_rfl
 t34:=Tryz.underlying172
 a34:=Tryz.isAgg172
 z34:=Tryz.sizeOf172
 v34:=Tryz.zeroValue172
 i34:=by kernel_rfl
 c34:=by kernel_rfl
 t36:=Tryz.underlying130
 a36:=Tryz.isAgg130
 z36:=Tryz.sizeOf130
 v36:=Tryz.zeroValue130
 i36:=by kernel_rfl
 t37:=Tryz.underlying67
 a37:=Tryz.isAgg67
 z37:=Tryz.sizeOf67
 v37:=Tryz.zeroValue67
 i37:=by kernel_rfl
 t39:=Tryz.underlying174
 a39:=Tryz.isAgg174
 z39:=Tryz.sizeOf174
 v39:=Tryz.zeroValue174
 i39:=by kernel_rfl
 t44:=Tryz.underlying188
 a44:=Tryz.isAgg188
 z44:=Tryz.sizeOf188
 v44:=Tryz.zeroValue188
 i44:=by kernel_rfl
 t47:=Tryz.underlying100
 a47:=Tryz.isAgg100
 z47:=Tryz.sizeOf100
 v47:=Tryz.zeroValue100
 i47:=by kernel_rfl
 t48:=Tryz.underlying193
 a48:=Tryz.isAgg193
 z48:=Tryz.sizeOf193
 v48:=Tryz.zeroValue193
 i48:=by kernel_rfl
 t50:=Tryz.underlying195
 a50:=Tryz.isAgg195
 z50:=Tryz.sizeOf195
 v50:=Tryz.zeroValue195
 i50:=by kernel_rfl
 t52:=Tryz.underlying166
 a52:=Tryz.isAgg166
 z52:=Tryz.sizeOf166
 v52:=Tryz.zeroValue166
 i52:=by kernel_rfl
 t55:=Tryz.underlying169
 a55:=Tryz.isAgg169
 z55:=Tryz.sizeOf169
 v55:=Tryz.zeroValue169
 i55:=by kernel_rfl
 t59:=Tryz.underlying182
 a59:=Tryz.isAgg182
 z59:=Tryz.sizeOf182
 v59:=Tryz.zeroValue182
 i59:=by kernel_rfl
 t60:=Tryz.underlying183
 a60:=Tryz.isAgg183
 z60:=Tryz.sizeOf183
 v60:=Tryz.zeroValue183
 i60:=by kernel_rfl
 t61:=Tryz.underlying184
 a61:=Tryz.isAgg184
 z61:=Tryz.sizeOf184
 t65:=Tryz.underlying196
 a65:=Tryz.isAgg196
 z65:=Tryz.sizeOf196
 v65:=Tryz.zeroValue196
 i65:=by kernel_rfl
 t66:=Tryz.underlying197
 a66:=Tryz.isAgg197
 z66:=Tryz.sizeOf197
 v66:=Tryz.zeroValue197
 i66:=by kernel_rfl
 t67:=Tryz.underlying71
 a67:=Tryz.isAgg71
 z67:=Tryz.sizeOf71
 v67:=Tryz.zeroValue71
 i67:=by kernel_rfl
 g0:=by kernel_rfl
 m0:=by kernel_rfl
 g1:=by kernel_rfl
 m1:=by kernel_rfl
 g2:=by kernel_rfl
 m2:=by kernel_rfl
 g3:=by kernel_rfl
 m3:=by kernel_rfl
 g4:=by kernel_rfl
 m4:=by kernel_rfl }
open Go.RowKit in
theorem strconv_ParseUint_10_at64_ok (s:ByteArray) (hmax:s.size≤9223372036854775806) (u:Nat) (h:Lib.parseUintB 64 s.data.toList=.ok u) (w:World) :
  Calls Tryz.prog 84 #[.string s,.int .i64 10,.int .i64 64] w fun e w'=>e=.returned (.tuple #[.int .u64 u,.nilIface])∧(w'=w∨w'=Lib.bytesWorld w 5 s):=Any.strconv_ParseUint_10_at64_ok XfF s hmax u h w
open Go.RowKit in
theorem strconv_ParseUint_10_at64_syntax (s:ByteArray) (hlim:s.size≤281474976710656) (h:Lib.parseUintB 64 s.data.toList=.«syntax») (ev:Value) (w:World) (hv:w.cell? ⟨5,0,none⟩=some ev) (hev:ev=.nilIface∨∃te pe,ev=.iface te pe) :
  Calls Tryz.prog 84 #[.string s,.int .i64 10,.int .i64 64] w fun e w'=>∃N,e=.returned (.tuple #[.int .u64 0,.iface 174 (.pointer (some ⟨N,0,none⟩))])∧w.heap.size≤N∧w'.heap[N]?=some (.cells #[.string ⟨#[80,97,114,115,101,85,105,110,116]⟩,.string s,ev] 188 (0,0))∧Below w.heap.size w w':=Any.strconv_ParseUint_10_at64_syntax XfF s hlim h ev w hv hev
open Go.RowKit in
theorem strconv_ParseUint_10_at64_range (s:ByteArray) (hlim:s.size≤281474976710656) (h:Lib.parseUintB 64 s.data.toList=.range) (ev:Value) (w:World) (hv:w.cell? ⟨6,0,none⟩=some ev) (hev:ev=.nilIface∨∃te pe,ev=.iface te pe) :
  Calls Tryz.prog 84 #[.string s,.int .i64 10,.int .i64 64] w fun e w'=>∃N,e=.returned (.tuple #[.int .u64 18446744073709551615,.iface 174 (.pointer (some ⟨N,0,none⟩))])∧w.heap.size≤N∧w'.heap[N]?=some (.cells #[.string ⟨#[80,97,114,115,101,85,105,110,116]⟩,.string s,ev] 188 (0,0))∧Below w.heap.size w w':=Any.strconv_ParseUint_10_at64_range XfF s hlim h ev w hv hev
def Xg4:Go.Shelf.Ren:=⟨fun|110=>39|109=>56|n=>n,fun|31=>30|9=>9|4=>4|3=>3|0=>0|n=>n,fun|n=>n⟩
theorem XjD:Go.Proofs.Lays.n110 Tryz.prog Xg4:={
 mixed:=by kernel_rfl
 f109:=Tryz.func56.trans (congrArg some (by kernel_rfl))
 f110:=Tryz.func39.trans (congrArg some (by kernel_rfl))
 t0:=Tryz.underlying0
 a0:=Tryz.isAgg0
 z0:=Tryz.sizeOf0
 v0:=Tryz.zeroValue0
 t3:=Tryz.underlying3
 a3:=Tryz.isAgg3
 z3:=Tryz.sizeOf3
 v3:=Tryz.zeroValue3
 t4:=Tryz.underlying4
 a4:=Tryz.isAgg4
 z4:=Tryz.sizeOf4
 v4:=Tryz.zeroValue4
 t9:=Tryz.underlying9
 a9:=Tryz.isAgg9
 z9:=Tryz.sizeOf9
 v9:=Tryz.zeroValue9
 t31:=Tryz.underlying30
 a31:=Tryz.isAgg30
 z31:=Tryz.sizeOf30
 v31:=Tryz.zeroValue30 }
open Go.Lib in
theorem slices_Contains_string (b off n c:Nat) (zs:List ByteArray) (x:ByteArray) (w:World) (hz:n≤zs.length) (hbig:n≤9223372036854775807) (hc:∀j,j < zs.length→w.cell? ⟨b,off+j,none⟩=some (.string (zs.getD j ByteArray.empty))) :
  Calls Tryz.prog 39 #[.slice (some ⟨b,off,none⟩) n c,.string x] w fun e w'=>e=.returned (.bool (Lib.containsS (zs.take n) x))∧w'=w:=Any.slices_Contains_string XjD b off n c zs x w hz hbig hc
open Go.Lib in
theorem slices_Contains_string_empty (a:Option Addr) (c:Nat) (x:ByteArray) (w:World) :
  Calls Tryz.prog 39 #[.slice a 0 c,.string x] w fun e w'=>e=.returned (.bool false)∧w'=w:=Any.slices_Contains_string_empty XjD a c x w
def Xg7:Go.Shelf.Ren:=⟨fun|193=>28|n=>n,fun|31=>30|9=>9|4=>4|3=>3|0=>0|n=>n,fun|n=>n⟩
theorem XjF:Go.Proofs.Lays.n193 Tryz.prog Xg7:={
 mixed:=by kernel_rfl
 f193:=Tryz.func28.trans (congrArg some (by kernel_rfl))
 t0:=Tryz.underlying0
 a0:=Tryz.isAgg0
 z0:=Tryz.sizeOf0
 v0:=Tryz.zeroValue0
 t3:=Tryz.underlying3
 a3:=Tryz.isAgg3
 z3:=Tryz.sizeOf3
 v3:=Tryz.zeroValue3
 t4:=Tryz.underlying4
 a4:=Tryz.isAgg4
 z4:=Tryz.sizeOf4
 v4:=Tryz.zeroValue4
 t9:=Tryz.underlying9
 a9:=Tryz.isAgg9
 z9:=Tryz.sizeOf9
 v9:=Tryz.zeroValue9
 t31:=Tryz.underlying30
 a31:=Tryz.isAgg30
 z31:=Tryz.sizeOf30
 v31:=Tryz.zeroValue30 }
open Go.RowKit Go.Lib in
theorem slices_Equal_string (b1 o1 n c b2 o2 m d:Nat) (xs ys:List ByteArray) (w:World) (hx:n≤xs.length) (hy:m≤ys.length) (hbig:n≤9223372036854775807) (hbig2:m≤9223372036854775807) (hc1:∀j,j < xs.length→w.cell? ⟨b1,o1+j,none⟩=some (.string (xs.getD j ByteArray.empty))) (hc2:∀j,j < ys.length→w.cell? ⟨b2,o2+j,none⟩=some (.string (ys.getD j ByteArray.empty))) :
  Calls Tryz.prog 28 #[.slice (some ⟨b1,o1,none⟩) n c,.slice (some ⟨b2,o2,none⟩) m d] w fun e w'=>e=.returned (.bool (decide (xs.take n=ys.take m)))∧∃q,w'=w.drewN q:=Any.slices_Equal_string XjF b1 o1 n c b2 o2 m d xs ys w hx hy hbig hbig2 hc1 hc2
open Go.RowKit Go.Lib in
theorem slices_Equal_string_empty (a1 a2:Option Addr) (c m d:Nat) (w:World) (hbig2:m≤9223372036854775807) :
  Calls Tryz.prog 28 #[.slice a1 0 c,.slice a2 m d] w fun e w'=>e=.returned (.bool (decide (m=0)))∧w'=w:=Any.slices_Equal_string_empty XjF a1 a2 c m d w hbig2
end Go.Proofs.YtcmfamgnmehojaaGreatDoor
