import Derived.Test.YtcmfamgnmehojaaGreatDoorW8
import Derived.RangeFuncWrites
import Derived.Lib.OthersKept
import Derived.Test.YtcmfamgnmehojaaGreatDoorW0
/- A walk over symbolic memory: objects that are no cells (a loop's record, a block of deferred calls) lie beside it, and turn. No program in sight. -/
set_option linter.unusedSimpArgs false
set_option linter.unusedVariables false
set_option maxRecDepth 100000
set_option maxHeartbeats 8000000
namespace Go.Proofs.YtcmfamgnmehojaaGreatDoor
open Go.RowKit
section
variable {F F':Nat→Prop} {w w':World}
theorem Mem.cw {ad:Option Addr} {vals:List Value} (hc:∀b o v,¬F b→w.cell? ⟨b,o,none⟩=some v→¬F' b∧w'.cell? ⟨b,o,none⟩=some v) (h:Mem F w ad vals):Mem F' w' ad vals:=by
 rcases h with h|⟨b,o,rfl,hb,h⟩
 ·exact .inl h
 ·cases vals with
  | nil=>exact .inl rfl
  | cons v vs=>exact .inr ⟨b,o,rfl,(hc b _ v hb (h 0 v rfl).1).1,fun j u hj=>⟨(hc b _ u hb (h j u hj).1).2,(h j u hj).2⟩⟩
mutual
theorem Den.cw (hc:∀b o v,¬F b→w.cell? ⟨b,o,none⟩=some v→¬F' b∧w'.cell? ⟨b,o,none⟩=some v):(av:AV)→∀v,Den F w av v→Den F' w' av v
 | .x u,v,h=>by rw [Den] at h ⊢;exact h
 | .top,v,h=>by rw [Den];trivial
 | .sq n cells,v,h=>by
   rw [Den] at h ⊢
   obtain ⟨ad,cap,vals,h1,h2,h3,h4,h5,h6⟩:=h
   exact ⟨ad,cap,vals,h1,h2,h3,h4,h5.cw hc,DenL.cw hc cells vals h6⟩
 | .at_ cells,v,h=>by
   rw [Den] at h ⊢
   obtain ⟨b,o,vals,h1,h5,h6⟩:=h
   exact ⟨b,o,vals,h1,h5.cw hc,DenL.cw hc cells vals h6⟩
 | .agg cells,v,h=>by
   rw [Den] at h ⊢
   obtain ⟨vals,h1,h6⟩:=h
   exact ⟨vals,h1,DenL.cw hc cells vals h6⟩
 | .tup cells,v,h=>by
   rw [Den] at h ⊢
   obtain ⟨vals,h1,h6⟩:=h
   exact ⟨vals,h1,DenL.cw hc cells vals h6⟩
 | .ifc t av,v,h=>by
   rw [Den] at h ⊢
   obtain ⟨u,h1,h6⟩:=h
   exact ⟨u,h1,Den.cw hc av u h6⟩
 | .g p av,v,h=>by
   rw [Den] at h ⊢
   exact ⟨fun hp=>Den.cw hc av v (h.1 hp),h.2⟩
theorem DenL.cw (hc:∀b o v,¬F b→w.cell? ⟨b,o,none⟩=some v→¬F' b∧w'.cell? ⟨b,o,none⟩=some v):(l:List AV)→∀vs,DenL F w l vs→DenL F' w' l vs
 | [],vs,h=>by rw [DenL] at h ⊢;exact h
 | c :: cs,vs,h=>by
   rw [DenL] at h ⊢
   obtain ⟨u,us,e,h1,h2⟩:=h
   exact ⟨u,us,e,Den.cw hc c u h1,DenL.cw hc cs us h2⟩
end
theorem XdY.cw (hc:∀b o v,¬F b→w.cell? ⟨b,o,none⟩=some v→¬F' b∧w'.cell? ⟨b,o,none⟩=some v) (hs:w.heap.size≤w'.heap.size) :
  ∀{h:Hp},XdY F w h→(∀k,h.blk=some k→w'.heap[k]?=w.heap[k]?)→XdY F' w' h
 | .box b cells,⟨vals,h1,hl,h2⟩,hb=>⟨vals,DenL.cw hc _ _ h1,by omega,fun j u hj=>by
   have:=hb b rfl
   rw [World.cell?_of_block (a:=⟨b,j,none⟩) this,World.frozen?_of_block (a:=⟨b,j,none⟩) this];exact h2 j u hj⟩
 | .row ad n cap e size cells,⟨vals,h1,h2,h3⟩,hb=>by
   refine ⟨vals,DenL.cw hc _ _ h1,?_,h3⟩
   obtain ⟨hl,hn|⟨g,cap',cur,e',hbg,hg,r⟩⟩:=h2
   ·exact ⟨hl,.inl hn⟩
   ·refine ⟨hl,.inr ⟨g,cap',cur,e',hbg,?_,r⟩⟩
    have:ad=some ⟨g,0,none⟩:=by injection e'
    rw [hb g (by rw [this];rfl)];exact hg
end
section
variable {P:Program} {Δ Δ':List Deferred} {V O:Nat→Prop} {w0 w w':World} {B H H' H1 D:List Hp} {T T' T1:List AV} {a a' a1:Act} {o:Oper} {ops:Array Oper} {n:Nat}
theorem Rel.comp (r:Rel Δ V O w0 H T a w) (r':Rel Δ' V (XbO H) w H1 T1 a1 w'):Rel Δ' V O w0 H1 T1 a1 w' where
 tmps:=r'.tmps
 hok:=r'.hok
 fr:=r.fr.trans r'.fr fun i hi ⟨x,hx,e⟩=>(r.own x hx i e).resolve_right (by omega)
 own:=fun y hy k hk=>by
  rcases r'.own y hy k hk with ⟨x,hx,e⟩|h
  ·exact r.own x hx k e
  ·exact .inr (Nat.le_trans r.fr.size h)
 defers:=r'.defers
 vlt:=r.vlt
 gl:=r.gl
theorem Rel.anew (r:Rel Δ V O w0 H T a w):Rel Δ V (XbO H) w H T a w where
 tmps:=r.tmps
 hok:=r.hok
 fr:=Fr.refl _ _
 own:=fun x hx k hk=>.inl ⟨x,hx,hk⟩
 defers:=r.defers
 vlt:=fun k hk=>Nat.lt_of_lt_of_le (r.vlt k hk) r.fr.size
 gl:=r.gb
theorem XgW {l:Nat} {ob:Obj} (ob':Obj) (h:w.heap[l]?=some ob) (hc:ob.isCells=false) {x:Addr} {u:Value} (hx:w.cell? x=some u):(w.putObj l ob').cell? x=some u:=by
 have hne:x.block≠l:=by
  intro e
  unfold World.cell? at hx
  rw [e,h] at hx
  cases ob<;>first|(cases hc;done)|(cases hx;done)|fail
 rw [World.cell?_of_block (World.putObj_heap_other hne)];exact hx
theorem Rel.putObj (r:Rel Δ V O w0 H T a w) {l:Nat} {ob:Obj} (ob':Obj) (h:w.heap[l]?=some ob) (hc:ob.isCells=false) (hb:¬XbO H l) (ho:O l∨w0.heap.size≤l):Rel Δ V O w0 H T a (w.putObj l ob'):=by
 have hsz:(w.putObj l ob').heap.size=w.heap.size:=by simp [World.putObj]
 have hk:∀b o v,¬FB V H b→w.cell? ⟨b,o,none⟩=some v→¬FB V H b∧(w.putObj l ob').cell? ⟨b,o,none⟩=some v:=fun b o v hF hv=>⟨hF,XgW ob' h hc hv⟩
 refine ⟨DenL.cw hk _ _ r.tmps,⟨fun x hx=>(r.hok.ok x hx).cw hk (by omega) fun k e=>World.putObj_heap_other fun e'=>hb ⟨x,hx,by rw [←e'];exact e⟩,r.hok.apart,fun x hx k e=>by rw [hsz];exact r.hok.lt x hx k e⟩,?_,r.own,r.defers,r.vlt,r.gl⟩
 refine r.fr.trans (O':=fun k=>k=l) ⟨rfl,rfl,rfl,by omega,fun k _ hn=>World.putObj_heap_other hn⟩ fun i hi e=>?_
 subst e
 exact ho.resolve_right (by omega)
def Trk (O:Nat→Prop) (w0:World) (H:List Hp) (w:World) (p:Nat × Obj):Prop:=w.heap[p.1]?=some p.2∧p.2=p.2∧¬XbO H p.1∧(O p.1∨w0.heap.size≤p.1)
theorem Trk.on {p:Nat × Obj} (t:Trk O w0 H w p) (r:Rel Δ V (XbO H) w H1 T1 a1 w'):Trk O w0 H1 w' p:=by
 obtain ⟨t1,t2,t3,t4⟩:=t
 have hlt:=(Array.getElem?_eq_some_iff.1 t1).1
 refine ⟨(r.fr.block p.1 hlt t3).trans t1,t2,fun ⟨x,hx,e⟩=>?_,t4⟩
 rcases r.own x hx p.1 e with h|h
 ·exact t3 h
 ·omega
theorem Trk.same {p:Nat × Obj} (t:Trk O w0 H w p) (h:∀k,XbO H1 k→XbO H k):Trk O w0 H1 w p:=⟨t.1,t.2.1,fun e=>t.2.2.1 (h _ e),t.2.2.2⟩
abbrev Xfr:=List Deferred→List (Nat × Obj)→Xb9
def XnN (V O:Nat→Prop) (w0:World) (Q:Xfr):Exit→Act→World→Prop:=fun e a w=>∃Δ Θ T H,Rel Δ V O w0 H T a w∧(∀p∈Θ,Trk O w0 H w p)∧Q Δ Θ e T H
def XiK (P:Program) (Δ:List Deferred) (Θ:List (Nat × Obj)) (c:Code) (Q:Xfr) (T:List AV) (H:List Hp):Prop:=
 ∀V O w0 a w,Rel Δ V O w0 H T a w→(∀p∈Θ,Trk O w0 H w p)→c.wp P (XnN V O w0 Q) a w
variable {Θ:List (Nat × Obj)} {Q:Xfr} {x y c:Code}
theorem Xjb (h:awp P c (Q Δ Θ) T H):XiK P Δ Θ c Q T H:=fun V O w0 a w r t=>
 wp_mono (h Δ V (XbO H) w a w r.anew) fun _ _ _ ⟨T',H',r',q⟩=>⟨Δ,Θ,T',H',r.comp r',fun p hp=>(t p hp).on r',q⟩
theorem Xhx (h:XiK P Δ Θ x (fun Δ Θ=>Xa1 (XiK P Δ Θ y Q) (Q Δ Θ)) T H):XiK P Δ Θ (.seq x y) Q T H:=fun V O w0 a w r t=>
 wp_seq (wp_mono (h V O w0 a w r t) fun e a w ⟨Δ,Θ,T,H,r,t,q⟩=>by
  cases e with
  | normal=>exact q V O w0 a w r t
  | _=>exact ⟨Δ,Θ,T,H,r,t,q⟩)
theorem XeB (h:awp P x (Xa1 (XiK P Δ Θ y Q) (Q Δ Θ)) T H):XiK P Δ Θ (.seq x y) Q T H:=Xhx (Xjb h)
theorem Xjf (h:XaK H T H' T'):∀k,XbO H' k→XbO H k:=by
 intro k ⟨x,hx,e⟩
 obtain ⟨D,R,hp,hH,-⟩:=h.ex
 obtain ⟨y,hy,hxy⟩:=hH.mem x hx
 exact ⟨y,hp.mem_iff.2 (by simp [hy]),hxy.blk▸e⟩
end
open Go.RowKit
section
variable {P:Program} {Δ Δ':List Deferred} {V O:Nat→Prop} {w0 w w':World} {B H H' H1 D:List Hp} {T T' T1 Tp:List AV} {a a' a1:Act} {o:Oper} {ops:Array Oper} {n:Nat}
variable {Θ:List (Nat × Obj)} {Q:Xfr} {x y c:Code}
def Xik (P:Program) (Δ:List Deferred) (Θ:List (Nat × Obj)) (ops:Array Oper) (Q:Xfr) (rest:List Oper) (T:List AV) (H:List Hp):Prop:=
 ∀V O w0 a w,Rel Δ V O w0 H T a w→(∀p∈Θ,Trk O w0 H w p)→wpListIn Fence.wide 0 P ops (XnN V O w0 Q) rest a w
theorem XgS {id:Nat} {L:List Oper} (h:Xik P Δ Θ L.toArray Q L T H):XiK P Δ Θ (.region id L.toArray false) Q T H:=fun V O w0 a w r t=>wpIn_wide.1 (wpIn_region_lit (h V O w0 a w r t))
theorem Xi8 (h:Q Δ Θ .normal T H):Xik P Δ Θ ops Q [] T H:=fun V O w0 a w r t=>wpListIn_nil ⟨Δ,Θ,T,H,r,t,h⟩
theorem Xks {K:Act→World→Prop} {Qe:Exit→Act→World→Prop} (h:o.wp P a w K Qe):o.wpIn Fence.wide n P a w K Qe:=by
 refine ⟨fun _ _=>trivial,?_⟩
 rw [show Fence.wide.round=none from rfl,Oper.semAt_none]
 unfold Oper.wp at h
 generalize (execOp a.eval o).run P w=r at h
 cases r with
 | halt k w'=>cases k<;>first|exact h|fail
 | ok x w'=>
   cases x
   case value v=>exact h
   case skip=>exact h
   case defer d=>exact h
   case enter f args=>exact ⟨fun e=>(by cases e),callsIn_wide.2 h⟩
   case row r args=>exact ⟨fun e=>(by cases e),fun c cs _=>by
    obtain ⟨v,w2,hR,hs⟩:=h c cs
    exact ⟨v,w2,hR,stepsIn_wide.2 hs⟩⟩
   all_goals exact h.elim
theorem Xi7 {T':List AV} {rest:List Oper} (hg:o.guard=none) (av:AV) (h:Evl P o (ev T) H av) (hT:XbH T o.dst av=T') (hK:Xik P Δ Θ ops Q rest T' H):Xik P Δ Θ ops Q (o :: rest) T H:=fun V O w0 a w r t=>
 wpListIn_plain hg fun K hKc=>Xks (h V a w K _ (r.oks o) fun v w' he hd=>hKc _ _ (hK V O w0 _ _ (hT▸(r.quiet he).put _ hd) fun p hp=>by
  obtain ⟨t1,t2,t3,t4⟩:=t p hp
  exact ⟨(he.block p.1 (Array.getElem?_eq_some_iff.1 t1).1).trans t1,t2,t3,t4⟩))
def XoM (D:Nat):Deferred:={ target:=.collected D,args:=#[] }
def Xo1 (P:Program) (fn:Func) (Q:AV→List Hp→Prop):Xfr:=fun Δ Θ e T H=>(e=.ret∨e=.normal)∧(Δ=[]∨∃D,Δ=[XoM D]∧(D,.deferred (some []))∈Θ)∧∃r H',Res P fn T H r H'∧Q r H'
theorem Xme {fn:Func} {Q:AV→List Hp→Prop} {e:Exit} (h:XbI P fn Q e T H):Xo1 P fn Q [] Θ e T H:=⟨h.1,.inl rfl,h.2⟩
theorem Xky {f:FuncId} {fn:Func} {c:Code} {args:List AV} {Q:AV→List Hp→Prop} (hf:P.funcs[f]?=some fn) (hb:fn.body=some c)
  (h:XiK P [] [] c (Xo1 P fn Q) (args++List.replicate (fn.ntmps - args.length) .top) H):Xbv P f H args Q:=by
 intro V w vs hV hH hd hgl
 have hlen:=hd.len
 refine (callsIn_wide (n:=0)).1 (callsIn_of_wp_marks hf hb trivial (wpIn_wide.2 ?_))
 have r:Rel [] V (XbO H) w H (args++List.replicate (fn.ntmps - args.length) .top) { tmps:=vs.toArray++Array.replicate (fn.ntmps - vs.toArray.size) undef,defers:=[] } w:=by
  refine ⟨?_,hH,Fr.refl _ _,fun x hx k hk=>.inl ⟨x,hx,hk⟩,rfl,hV,hgl⟩
  simp only [Array.toList_append,Array.toList_replicate,List.size_toArray,hlen]
  refine hd.app (DenL.of (by simp) fun j av u h1 h2=>?_)
  rw [List.getElem?_replicate] at h1
  split at h1
  ·cases h1;rw [Den];trivial
  ·cases h1
 refine wp_mono (h V (XbO H) w _ w r (fun p hp=>by cases hp)) ?_
 rintro e a' w' ⟨Δ1,Θ1,T',H1,r1,t1,he,hΔ,res,H',hres,hq⟩
 have fin:∀w2,Rel Δ1 V (XbO H) w H1 T' a' w2→∃v,(results fn a'.tmps).run P w2=.ok v w2∧∃r H' v',Q r H'∧Ending.returned v=.returned v'∧Den (FB V H') w2 r v'∧HOk V w2 H'∧Fr (XbO H) w w2∧∀h∈H',∀k,h.blk=some k→XbO H k∨w.heap.size≤k:=fun w2 r2=>by
  obtain ⟨v,g1,g2,g3,g4⟩:=hres _ V (XbO H) w a' w2 r2
  exact ⟨v,g1,res,H',v,hq,rfl,g2,g3,r2.fr,fun x hx k hk=>by obtain ⟨y,hy,e⟩:=g4 x hx k hk;exact r2.own y hy k e⟩
 have hleave:LeavesInM Fence.wide 0 P fn a'.tmps (fun e w'=>∃r H' v,Q r H'∧e=.returned v∧Den (FB V H') w' r v∧HOk V w' H'∧Fr (XbO H) w w'∧∀h∈H',∀k,h.blk=some k→XbO H k∨w.heap.size≤k) a'.defers .returning w':=by
  rw [r1.defers]
  rcases hΔ with rfl|⟨D,rfl,hm⟩
  ·exact fin w' r1
  ·have tD:=t1 _ hm
   exact ⟨by simp,.inl ⟨D,_,rfl,run_takeDeferred tD.1,fin _ (r1.putObj _ tD.1 rfl tD.2.2.1 tD.2.2.2)⟩⟩
 rcases he with rfl|rfl
 ·exact hleave
 ·exact hleave
end
open Go.RowKit Go.Lib
section
variable {P:Program} {Δ Δ':List Deferred} {V O:Nat→Prop} {w0 w w':World} {H H':List Hp} {T T':List AV} {a a':Act} {o:Oper} {ops:Array Oper}
variable {Θ:List (Nat × Obj)} {Q:Xfr}
section
variable {x y z u v c':Code}
end
theorem Xja {c:Code} (h:XiK P Δ [] c Q T H):XiK P Δ Θ c Q T H:=fun V O w0 a w r _=>h V O w0 a w r fun p hp=>by cases hp
end
open Go.RowKit Go.Lib
section
variable {P:Program} {Δ Δ':List Deferred} {V O:Nat→Prop} {w0 w w':World} {H H':List Hp} {T T':List AV} {a a':Act} {o:Oper} {ops:Array Oper}
variable {Θ:List (Nat × Obj)} {Q:Xfr}
def Wk (H H':List Hp):Prop:=∃D R,H.Perm (D++R)∧XaI D R H'
theorem Wk.mk' (D R:List Hp) (hp:H.Perm (D++R)) (hH:XaI D R H'):Wk H H':=⟨D,R,hp,hH⟩
theorem Wk.weak (h:Wk H H') (T:List AV):XaK H T H' T:=by
 obtain ⟨D,R,hp,hH⟩:=h
 exact XaK.mk' D R hp hH (VwL.refl _ _)
theorem Xjc {c:Code} (hw:XaK H T H' T') (h:XiK P Δ Θ c Q T' H'):XiK P Δ Θ c Q T H:=fun V O w0 a w r t=>h V O w0 a w (r.weaken hw) fun p hp=>(t p hp).same (Xjf hw)
theorem DenA.set {F:Nat→Prop} {l:List AV} {vs:Array Value} (h:DenL F w l vs.toList) (i:Nat) (v:Value):DenL F w (l.set i (.x v)) (vs.setIfInBounds i v).toList:=by
 rw [Array.toList_setIfInBounds]
 exact h.set i (by rw [Den])
end
open Go.RowKit Go.Shelf Go.Lib
section
variable {Δ:List Deferred} {V O:Nat→Prop} {w0 w w':World} {H:List Hp} {T:List AV} {a:Act} {o:Oper} {ops:Array Oper} {Θ:List (Nat × Obj)} {Q:Xfr}
theorem XgV (w:World) (a:Addr) (n:Nat) (x:Addr):(w.freeze a n).cell? x=w.cell? x:=by
 unfold World.freeze
 split
 ·rfl
 ·simp only [World.cell?,Array.getElem?_modify]
  by_cases h:a.block=x.block
  ·rw [if_pos h]
   cases w.heap[x.block]? with
   | none=>rfl
   | some ob=>cases ob<;>rfl
  ·rw [if_neg h]
theorem Xis {g n:Nat} {cur:Array Value} {e:TypeId} (h:w.heap[g]?=some (.cells cur e (0,0))) (hn:n≠0):(w.freeze ⟨g,0,none⟩ n).heap[g]?=some (.cells cur e (0,n)):=by
 unfold World.freeze
 rw [if_neg hn]
 simp [Array.getElem?_modify,h]
theorem Rel.frz (r:Rel Δ V O w0 H T a w) (g n:Nat) (hb:¬XbO H g) (ho:O g∨w0.heap.size≤g):Rel Δ V O w0 H T a (w.freeze ⟨g,0,none⟩ n):=by
 have hsz:=Xg1 w ⟨g,0,none⟩ n
 have hk:∀b o v,¬FB V H b→w.cell? ⟨b,o,none⟩=some v→¬FB V H b∧(w.freeze ⟨g,0,none⟩ n).cell? ⟨b,o,none⟩=some v:=fun b o v hF hv=>⟨hF,by rw [XgV];exact hv⟩
 refine ⟨DenL.cw hk _ _ r.tmps,⟨fun x hx=>(r.hok.ok x hx).cw hk (by omega) fun k e=>Xed _ _ _ _ fun e'=>hb ⟨x,hx,by have h5:k=g:=e';rw [←h5];exact e⟩,r.hok.apart,fun x hx k e=>by rw [hsz];exact r.hok.lt x hx k e⟩,?_,r.own,r.defers,r.vlt,r.gl⟩
 refine r.fr.trans (O':=fun k=>k=g) ⟨by unfold World.freeze;split<;>rfl,by unfold World.freeze;split<;>rfl,by unfold World.freeze;split<;>rfl,by omega,fun k _ hn=>Xed _ _ _ _ hn⟩ fun i hi e=>?_
 subst e
 exact ho.resolve_right (by omega)
def Xpc (Θ:List (Nat × Obj)) (ad:Option Addr) (cap:Nat) (l:List UInt8):Prop:=
 (l=[]∧ad=none)∨∃(g:Nat) (cur:Array Value),ad=some ⟨g,0,none⟩∧(g,Obj.cells cur 5 (0,l.length))∈Θ∧l≠[]∧l.length≤cur.size∧l.length≤cap∧∀(j:Nat) (x:UInt8),l[j]?=some x→cur[j]?=some (Value.int .u8 (x.toNat:Nat))
theorem XoR (b cap:Nat) (p:Value) (w:World) (hbk:w.heap[b]?=some (.cells #[p,.slice none 0 cap] 69 (0,0))) :
  Calls Tryz.prog 23 #[.pointer (some ⟨b,0,none⟩)] w fun e w'=>e=.returned (.string (bs []))∧Ext w w':=by
 have c1:w.drew.cell? ⟨b,1,none⟩=some (.slice none 0 cap):=by
  have:w.drew.heap[b]?=some (.cells #[p,.slice none 0 cap] 69 (0,0)):=hbk
  rw [Lib.cell_of_heap this];rfl
 have hSD:(Builtin.unsafeSliceData_ #[67] 100 #[.slice none 0 cap]).run Tryz.prog w.drew=.ok (.pointer none) w.drew:=Lib.run_unsafeSliceData_nil _ _ _ _ _
 have hUS:(Builtin.unsafeString_ #[100,3] 9 #[.pointer none,.int .i64 0]).run Tryz.prog w.drew=.ok (.string .empty) w.drew:=Lib.run_unsafeString_none _ _ _ _ _
 have hmx:=mixed
 go_enter Tryz.func23,Tryz.ntmps23
 go_wp2
 go_region_o
 all_goals (go_wp2;go_ret;exact ⟨rfl,(show Ext w w.drew from Below.drew (Below.refl _ w))⟩)
variable {rest:List Oper} {c x:Operand} {tys:Array TypeId} {b:Nat} {p:Value} {ad:Option Addr} {cap:Nat} {l:List UInt8}
theorem Xi9 (hg:o.guard=none) (ho:o.op=.call { callee:=.value c,args:=#[x],argTypes:=tys }) (hc:ev T c=.x (.func (.func 23) #[] #[])) (hx:ev T x=.x (.pointer (some ⟨b,0,none⟩))) (h0:l=[]→ad=none) (hm:l.length≤1000000)
  (hK:∀Θ',Xpc Θ' ad cap l→Xik Tryz.prog Δ Θ' ops Q rest (XbH T o.dst (.x (.string (bs l)))) [.row (some ⟨b,0,none⟩) 1 1 69 2 [.x p,.x (.slice ad l.length cap)]]) :
  Xik Tryz.prog Δ [] ops Q (o :: rest) T [.row (some ⟨b,0,none⟩) 1 1 69 2 [.x p,.x (.slice ad l.length cap)],.row ad l.length cap 5 1 (u8a l)]:=fun V O w0 a w r t=>by
 obtain ⟨u0,u1,hbk,d0,d1,o0,o1⟩:=Xo4 (r.hok.ok _ (List.mem_cons_self ..))
 rw [Den] at d0 d1
 subst d0 d1
 obtain ⟨vals,hdv,hown,hone⟩:=r.hok.ok _ (List.mem_cons_of_mem _ (List.mem_cons_self ..))
 have hvals:vals=l.map fun c=>.int .u8 (c.toNat:Nat):=by
  have:u8a l=(l.map fun c=>Value.int .u8 (c.toNat:Nat)).map .x:=by simp [u8a,u8s]
  rw [this] at hdv;exact hdv.exact'
 subst hvals
 have r1:Rel Δ V O w0 [.row (some ⟨b,0,none⟩) 1 1 69 2 [.x u0,.x (.slice ad l.length cap)]] T a w:=by
  have q:=r.weaken (XaK.mk' (H':=[.row (some ⟨b,0,none⟩) 1 1 69 2 [.x u0,.x (.slice ad l.length cap)]]) (T':=T) [.row ad l.length cap 5 1 (u8a l)] [_] (List.Perm.swap _ _ _) (XaI.refl _ _) (VwL.refl _ _))
  exact q
 refine wpListIn_plain hg fun K hKc=>Xks ?_
 refine XcV ho (r.evx hc) Tryz.func23 (by decide) rfl (vs:=#[.pointer (some ⟨b,0,none⟩)]) (by simp [r.evx hx]) ?_
 by_cases hl:l=[]
 ·have had:=h0 hl
  subst hl had
  refine (XoR b cap u0 w hbk).mono ?_
  rintro e w' ⟨rfl,hE⟩
  exact ⟨_,rfl,hKc _ _ (hK [] (Or.inl ⟨rfl,rfl⟩) V O w0 _ _ ((r1.quiet hE).put o.dst (Xcu _)) fun p hp=>by cases hp)⟩
 ·obtain ⟨-,⟨-,h⟩|⟨g,cap',cur,e0,-,hg,hnc,hcm,hcs,ht⟩⟩:=hown
  ·exact absurd (List.eq_nil_of_length_eq_zero h) hl
  cases e0
  have hglt:g < w.heap.size:=(Array.getElem?_eq_some_iff.1 hg).1
  have hnb:¬XbO [.row (some ⟨b,0,none⟩) 1 1 69 2 [.x u0,.x (.slice (some ⟨g,0,none⟩) l.length cap)]] g:=fun ⟨y,hy,e⟩=>by
   rw [List.mem_singleton] at hy;subst hy
   exact (List.pairwise_cons.1 r.hok.apart).1 _ (List.mem_cons_self ..) g e rfl
  have hog:O g∨w0.heap.size≤g:=r.own _ (List.mem_cons_of_mem _ (List.mem_cons_self ..)) g rfl
  have hcl:∀(j:Nat) (x:UInt8),l[j]?=some x→cur[j]?=some (Value.int .u8 (x.toNat:Nat)):=fun j x hx=>by
   have hj:j < l.length:=(List.getElem?_eq_some_iff.1 hx).1
   have:=congrArg (·[j]?) ht
   simp only [Nat.mul_one,List.getElem?_take,List.getElem?_map,hx,if_pos hj,Option.map_some] at this
   simpa using this
  refine (XoP b g cap _ l hl cur _ w hbk hg (by rw [hcs];omega) hnc hm fun j x hx=>by rw [Lib.cell_of_heap hg];exact hcl j x hx).mono ?_
  rintro e w' ⟨rfl,w1,hE,rfl⟩
  have hg1:w1.heap[g]?=some (.cells cur 5 (0,0)):=by rw [hE.block g hglt];exact hg
  have hl0:l.length≠0:=by simpa using hl
  refine ⟨_,rfl,hKc _ _ (hK [(g,.cells cur 5 (0,l.length))] (Or.inr ⟨g,cur,rfl,List.mem_singleton.2 rfl,hl,by rw [hcs];omega,hnc,hcl⟩) V O w0 _ _ (((r1.quiet hE).frz g l.length hnb hog).put o.dst (Xcu _)) fun p hp=>?_)⟩
  rw [List.mem_singleton] at hp;subst hp
  exact ⟨Xis hg1 hl0,rfl,hnb,hog⟩
end
open Go.RowKit
def ra (l:List (Int × Int)):List AV:=l.flatMap fun s=>[.x (.int .i64 s.1),.x (.int .u64 s.2)]
@[simp] theorem Xo3 (l:List (Int × Int)):(ra l).length=l.length*2:=by
 induction l with
 | nil=>rfl
 | cons j l ih=>simp only [ra,List.flatMap_cons,Xpz,Xpq] at ih ⊢;rw [ih];simp;omega
theorem XlS (l m:List (Int × Int)):ra (l++m)=ra l++ra m:=by simp [ra]
def ea (l:List (List UInt8 × List UInt8)):List AV:=l.flatMap fun s=>[.x (.string (bs s.1)),.x (.string (bs s.2))]
@[simp] theorem Xo0 (l:List (List UInt8 × List UInt8)):(ea l).length=l.length*2:=by
 induction l with
 | nil=>rfl
 | cons j l ih=>simp only [ea,List.flatMap_cons,Xpz,Xpq] at ih ⊢;rw [ih];simp;omega
theorem Xnx (l m:List (List UInt8 × List UInt8)):ea (l++m)=ea l++ea m:=by simp [ea]
structure JF where
 name:List UInt8
 run:List UInt8
 env:List (List UInt8 × List UInt8)
 needs:List (List UInt8)
 hasr:Bool
 ready:List UInt8
 restart:Int
 base:Int
 cap:Int
 stable:Int
 burst:Int
 window:Int
 ladder:List (Int × Int)
 line:Int
 col:Int
def JF.cells (j:JF):List AV:=[.x (.string (bs j.name)),.x (.string (bs j.run)),.sq j.env.length (ea j.env),.sq j.needs.length (sa j.needs),.x (.bool j.hasr),.x (.string (bs j.ready)),.x (.int .i64 j.restart),.x (.int .u64 j.base),.x (.int .u64 j.cap),.x (.int .u64 j.stable),.x (.int .i64 j.burst),.x (.int .u64 j.window),.sq j.ladder.length (ra j.ladder),.x (.int .i64 j.line),.x (.int .i64 j.col)]
def U64 (v:Int):Prop:=0≤v∧v≤18446744073709551615
structure Xlx (j:JF):Prop where
 name:j.name.length≤8
 run:j.run.length≤16
 env:j.env.length≤2
 enve:∀p∈j.env,p.1.length≤8∧p.2.length≤8
 needs:j.needs.length≤4
 neede:∀s∈j.needs,s.length≤8
 ready:j.ready.length≤16
 ladder:j.ladder.length≤4
 laddere:∀p∈j.ladder,U64 p.2
 base:U64 j.base
 cap:U64 j.cap
 stable:U64 j.stable
 window:U64 j.window
 burst : -9223372036854775808≤j.burst∧j.burst≤9223372036854775807
theorem XeI (l:List (List UInt8 × List UInt8)) (k:Nat) (h:k < l.length):(ea l).drop (k*2)=.x (.string (bs l[k].1)) :: .x (.string (bs l[k].2)) :: ea (l.drop (k+1)):=by
 induction l generalizing k with
 | nil=>simp at h
 | cons j l ih=>
   cases k with
   | zero=>simp [ea]
   | succ k=>
     simp only [ea,List.flatMap_cons,List.drop_succ_cons,List.getElem_cons_succ] at ih ⊢
     rw [show (k+1)*2=2+k*2 from by omega,←List.drop_drop]
     exact ih k (by simpa using h)
theorem Xj8 (l:List (Int × Int)) (k:Nat) (h:k < l.length):(ra l).drop (k*2)=.x (.int .i64 l[k].1) :: .x (.int .u64 l[k].2) :: ra (l.drop (k+1)):=by
 induction l generalizing k with
 | nil=>simp at h
 | cons j l ih=>
   cases k with
   | zero=>simp [ra]
   | succ k=>
     simp only [ra,List.flatMap_cons,List.drop_succ_cons,List.getElem_cons_succ] at ih ⊢
     rw [show (k+1)*2=2+k*2 from by omega,←List.drop_drop]
     exact ih k (by simpa using h)
def jfa (l:List JF):List AV:=l.flatMap JF.cells
@[simp] theorem Xmu (l:List JF):(jfa l).length=l.length*15:=by
 induction l with
 | nil=>rfl
 | cons j l ih=>simp only [jfa,List.flatMap_cons,Xpz,Xpq] at ih ⊢;rw [ih];simp [JF.cells];omega
theorem XkS (l:List JF) (k:Nat) (h:k < l.length):(jfa l).drop (k*15)=l[k].cells++jfa (l.drop (k+1)):=by
 induction l generalizing k with
 | nil=>simp at h
 | cons j l ih=>
   cases k with
   | zero=>simp [jfa]
   | succ k=>
     simp only [jfa,List.flatMap_cons,List.drop_succ_cons,List.getElem_cons_succ] at ih ⊢
     rw [show (k+1)*15=j.cells.length+k*15 from by simp [JF.cells];omega,←List.drop_drop,List.drop_append_length]
     exact ih k (by simpa using h)
theorem Xcv (l:List JF) (k:Nat) (h:k < l.length):(jfa l).drop (k*15)=.x (.string (bs l[k].name)) :: .x (.string (bs l[k].run)) :: .sq l[k].env.length (ea l[k].env) :: .sq l[k].needs.length (sa l[k].needs) :: .x (.bool l[k].hasr) :: .x (.string (bs l[k].ready)) :: .x (.int .i64 l[k].restart) :: .x (.int .u64 l[k].base) :: .x (.int .u64 l[k].cap) :: .x (.int .u64 l[k].stable) :: .x (.int .i64 l[k].burst) :: .x (.int .u64 l[k].window) :: .sq l[k].ladder.length (ra l[k].ladder) :: .x (.int .i64 l[k].line) :: .x (.int .i64 l[k].col) :: jfa (l.drop (k+1)):=XkS l k h
def Xc3 (b:UInt8):Bool:=decide ((65≤b.toNat∧b.toNat≤90)∨(97≤b.toNat∧b.toNat≤122)∨b.toNat=95)
def XbC (b:UInt8):Bool:=decide (48≤b.toNat∧b.toNat≤57)
def Xgg (b:UInt8):Option Nat:=
 if 48≤b.toNat∧b.toNat≤57 then some (b.toNat - 48)
 else if 97≤b.toNat∧b.toNat≤102 then some (b.toNat - 87)
 else if 65≤b.toNat∧b.toNat≤70 then some (b.toNat - 55) else none
theorem Xjy {b:UInt8} {n:Nat} (h:Xgg b=some n):n < 16:=by
 unfold Xgg at h
 split at h
 ·cases h;omega
 ·split at h
  ·cases h;omega
  ·split at h
   ·cases h;omega
   ·cases h
def XdF:List UInt8→Option (UInt8 × Nat)
 | []=>none
 | d :: r=>
   if d.toNat=34∨d.toNat=92 then some (d,1) else if d.toNat=110 then some (10,1) else if d.toNat=116 then some (9,1)
   else if d.toNat=120 then match r with
    | h :: l :: _=>match Xgg h,Xgg l with
      | some a,some b=>some (UInt8.ofNat (16*a+b),3)
      | _,_=>none
    | _=>none
   else none
theorem Xf8 (d:UInt8) (r:List UInt8) (h:d.toNat=34∨d.toNat=92):XdF (d :: r)=some (d,1):=by simp only [XdF,if_pos h]
theorem XlI (d:UInt8) (r:List UInt8) (h:d.toNat=110):XdF (d :: r)=some (10,1):=by simp only [XdF];rw [if_neg (by omega),if_pos h]
theorem XlJ (d:UInt8) (r:List UInt8) (h:d.toNat=116):XdF (d :: r)=some (9,1):=by simp only [XdF];rw [if_neg (by omega),if_neg (by omega),if_pos h]
theorem XhD (d a b:UInt8) (r:List UInt8) (h:d.toNat=120):XdF (d :: a :: b :: r)=(Xgg a).bind fun x=>(Xgg b).map fun y=>(UInt8.ofNat (16*x+y),3):=by
 simp only [XdF];rw [if_neg (by omega),if_neg (by omega),if_neg (by omega),if_pos h]
 cases Xgg a<;>cases Xgg b<;>rfl
theorem Xmi (d a:UInt8) (h:d.toNat=120):XdF [d,a]=none:=by
 simp only [XdF];rw [if_neg (by omega),if_neg (by omega),if_neg (by omega),if_pos h]
theorem Xmh (d:UInt8) (h:d.toNat=120):XdF [d]=none:=by
 simp only [XdF];rw [if_neg (by omega),if_neg (by omega),if_neg (by omega),if_pos h]
theorem Xmg (d:UInt8) (r:List UInt8) (h:¬(d.toNat=34∨d.toNat=92∨d.toNat=110∨d.toNat=116∨d.toNat=120)):XdF (d :: r)=none:=by
 simp only [XdF];rw [if_neg (by omega),if_neg (by omega),if_neg (by omega),if_neg (by omega)]
def part:List UInt8→Option (UInt8 × Nat)
 | []=>none
 | c :: r=>if c.toNat < 32∨c.toNat=34 then none else if c.toNat≠92 then some (c,1) else (XdF r).map fun x=>(x.1,x.2+1)
theorem Xce (c:UInt8) (r:List UInt8):part (c :: r)=if c.toNat < 32∨c.toNat=34 then none else if c.toNat≠92 then some (c,1) else (XdF r).map fun x=>(x.1,x.2+1):=rfl
theorem Xjm {l:List UInt8} {b:UInt8} {n:Nat} (h:XdF l=some (b,n)):1≤n∧n≤3∧n≤l.length:=by
 unfold XdF at h
 split at h
 ·cases h
 ·split at h
  ·cases h;simp
  ·split at h
   ·cases h;simp
   ·split at h
    ·cases h;simp
    ·split at h
     ·split at h
      ·split at h
       ·cases h;simp
       ·cases h
      ·cases h
     ·cases h
theorem Xhf {l:List UInt8} {b:UInt8} {n:Nat} (h:part l=some (b,n)):1≤n∧n≤4∧n≤l.length:=by
 unfold part at h
 split at h
 ·cases h
 ·split at h
  ·cases h
  ·split at h
   ·cases h;simp
   ·cases he:XdF _ with
    | none=>rw [he] at h;cases h
    | some x=>rw [he] at h;cases h;have:=Xjm he;simp;omega
def quo (l:List UInt8):Option (List UInt8 × Nat):=
 match l with
 | []=>none
 | c :: r=>
   if c.toNat=34 then some ([],1) else
   match part (c :: r) with
   | none=>none
   | some x=>(quo ((c :: r).drop (max x.2 1))).map fun y=>(x.1 :: y.1,x.2+y.2)
termination_by l.length
decreasing_by simp;omega
def sla (l:List UInt8):Option (List UInt8 × Nat):=
 match l with
 | []=>none
 | c :: r=>
   if c.toNat=47 then some ([],1) else if c.toNat < 32 then none
   else if c.toNat=92 then
    match r with
    | []=>none
    | d :: r=>if d.toNat < 32 then none else if d.toNat=47 then (sla r).map fun x=>(d :: x.1,2+x.2) else (sla r).map fun x=>(c :: d :: x.1,2+x.2)
   else (sla r).map fun x=>(c :: x.1,1+x.2)
def spn (p:UInt8→Bool) (l:List UInt8):Nat:=(l.takeWhile p).length
def XcZ (b:UInt8):Bool:=XbC b || (Xc3 b || decide (b.toNat=45))
def one:List UInt8→Except Int (Int × List UInt8 × Nat)
 | []=>.error 50
 | c :: r=>
   if Xc3 c then .ok (1,(c :: r).take (spn XcZ (c :: r)),spn XcZ (c :: r))
   else if XbC c then
    if 18 < spn XbC (c :: r)∨1 < spn XbC (c :: r)∧c.toNat=48 then .error 53 else .ok (2,(c :: r).take (spn XbC (c :: r)),spn XbC (c :: r))
   else if c.toNat=34 then match quo r with
    | none=>.error 51
    | some x=>.ok (3,x.1,x.2+1)
   else if c.toNat=47 then match sla r with
    | none=>.error 52
    | some x=>.ok (4,x.1,x.2+1)
   else if c.toNat=123∨c.toNat=125∨c.toNat=44∨c.toNat=61 then .ok (5,[c],1)
   else .error 50
def cmt:List UInt8→Nat
 | []=>0
 | c :: r=>if c.toNat=10 then 0 else cmt r+1
def skp:List UInt8→Nat
 | []=>0
 | c :: r=>
   if c.toNat=32∨c.toNat=9∨c.toNat=10∨c.toNat=13 then skp r+1
   else if c.toNat=35 then cmt (c :: r)+skp ((c :: r).drop (max (cmt (c :: r)) 1))
   else 0
termination_by l=>l.length
decreasing_by
 ·simp
 ·simp;omega
theorem XlD (l:List UInt8):cmt l≤l.length:=by
 induction l with
 | nil=>simp [cmt]
 | cons c r ih=>simp only [cmt];split<;>simp;omega
theorem XeG (c:UInt8) (r:List UInt8) (h:c.toNat≠10):cmt (c :: r)=cmt r+1:=by simp only [cmt,if_neg h]
theorem XlE (c:UInt8) (r:List UInt8) (h:c.toNat=10):cmt (c :: r)=0:=by simp only [cmt,if_pos h]
theorem Xkh:skp []=0:=by rw [skp]
theorem Xgt (c:UInt8) (r:List UInt8) (h:c.toNat=32∨c.toNat=9∨c.toNat=10∨c.toNat=13):skp (c :: r)=skp r+1:=by rw [skp,if_pos h]
theorem Xkg (c:UInt8) (r:List UInt8) (h:c.toNat=35):skp (c :: r)=cmt (c :: r)+skp ((c :: r).drop (cmt (c :: r))):=by
 rw [skp,if_neg (by omega),if_pos h,show max (cmt (c :: r)) 1=cmt (c :: r) from by rw [XeG _ _ (by omega)];omega]
theorem Xki (c:UInt8) (r:List UInt8) (h:¬(c.toNat=32∨c.toNat=9∨c.toNat=10∨c.toNat=13)) (h2:c.toNat≠35):skp (c :: r)=0:=by rw [skp,if_neg h,if_neg h2]
def plc (p:Nat × Nat):List UInt8→Nat × Nat
 | []=>p
 | c :: r=>plc (if c.toNat=10 then (p.1+1,1) else (p.1,p.2+1)) r
structure Tok where
 kind:Int
 text:List UInt8
 line:Nat
 col:Nat
structure Flt where
 code:Int
 line:Nat
 col:Nat
def Xb8 (p:Nat × Nat) (n:Nat) (l:List UInt8):Except Flt (List Tok):=
 match h:l.drop (skp l) with
 | []=>.ok [⟨6,[],(plc p l).1,(plc p l).2⟩]
 | c :: r=>
   match one (c :: r) with
   | .error e=>.error ⟨e,(plc p (l.take (skp l))).1,(plc p (l.take (skp l))).2⟩
   | .ok x=>if 2000≤n then .error ⟨1,(plc p (l.take (skp l))).1,(plc p (l.take (skp l))).2⟩
     else (Xb8 (plc p (l.take (skp l+x.2.2))) (n+1) ((c :: r).drop (max x.2.2 1))).map (⟨x.1,x.2.1,(plc p (l.take (skp l))).1,(plc p (l.take (skp l))).2⟩ :: ·)
termination_by l.length
decreasing_by
 have:=congrArg List.length h
 simp at *;omega
def lex (l:List UInt8):Except Flt (List Tok):=if 8192 < l.length then .error ⟨1,0,0⟩ else Xb8 (1,1) 0 l
def tkA (ts:List Tok) (k:Nat):Tok:=ts.getD k ⟨6,[],0,0⟩
def flt (e:Int) (t:Tok):Flt:=⟨e,t.line,t.col⟩
def Xb0 (ts:List Tok) (k:Nat) (kind:Int) (most:Nat):Except Flt Tok:=
 if (tkA ts k).kind≠kind then .error (flt 60 (tkA ts k)) else if most < (tkA ts k).text.length then .error (flt 1 (tkA ts k)) else .ok (tkA ts k)
def gIs (ts:List Tok) (k:Nat) (s:List UInt8):Bool:=(tkA ts k).kind == 5 && (tkA ts k).text == s
def Xfe (ts:List Tok) (k:Nat) (s:List UInt8):Except Flt Unit:=if gIs ts k s then .ok () else .error (flt 60 (tkA ts k))
def XiM (l:List UInt8):Int:=l.foldl (fun n c=>10*n+(c.toNat - 48)) 0
def Xdk (ts:List Tok) (k:Nat):Except Flt Int:=(Xb0 ts k 2 8192).map fun t=>XiM t.text
def Xh6:List UInt8:=[114,117,110]
def XfS:List UInt8:=[101,110,118]
def Xdd:List UInt8:=[110,101,101,100,115]
def Xeh:List UInt8:=[114,101,97,100,121]
def XcC:List UInt8:=[114,101,115,116,97,114,116]
def Xcm:List UInt8:=[98,97,99,107,111,102,102]
def XdX:List UInt8:=[98,117,114,115,116]
def XiI:List UInt8:=[115,116,111,112]
def Xou:List UInt8:=[106,111,98]
def Xek:List (List UInt8):=[Xh6,XfS,Xdd,Xeh,XcC,Xcm,XdX,XiI]
def Xm0 (s:List UInt8):Int:=
 if s=[72,85,80] then 1 else if s=[73,78,84] then 2 else if s=[81,85,73,84] then 3 else if s=[85,83,82,49] then 10 else if s=[85,83,82,50] then 12 else if s=[84,69,82,77] then 15 else 0
def Xdw (ts:List Tok) (k:Nat) (full:Bool):Except Flt Tok:=do
 let t ←Xb0 ts k 1 32
 if full then .error (flt 1 t) else .ok t
def Xmp (ts:List Tok) (k:Nat) (env:List (List UInt8 × List UInt8)):Except Flt (List UInt8 × List UInt8):=do
 let t ←Xdw ts k (decide (16≤env.length))
 if env.any (·.1 == t.text) then .error (flt 5 t) else
 Xfe ts (k+1) [61]
 let v ←Xb0 ts (k+2) 3 512
 .ok (t.text,v.text)
def Xej (ts:List Tok) (k:Nat) (out:List (List UInt8)):Except Flt (List UInt8):=do
 let t ←Xdw ts k (decide (16≤out.length))
 if out.contains t.text then .error (flt 5 t) else .ok t.text
def Xd4 (ts:List Tok) (k:Nat) (out:List (Int × Int)):Except Flt (Int × Int):=do
 let t ←Xb0 ts k 1 8192
 if 5≤out.length then .error (flt 1 t) else
 if Xm0 t.text=0 then .error (flt 4 t) else
 let n ←Xdk ts (k+1)
 .ok (Xm0 t.text,n)
def XcF {α:Type} (el:Nat→List α→Except Flt α) (st:Nat) (ts:List Tok) (k:Nat) (out:List α):Except Flt (List α × Nat):=
 match el k out with
 | .error f=>.error f
 | .ok x=>if h:k+st < ts.length∧gIs ts (k+st) [44]=true then XcF el st ts (k+st+1) (out++[x]) else .ok (out++[x],k+st)
termination_by ts.length - k
decreasing_by omega
def XkP (ts:List Tok) (k:Nat):Except Flt Int:=do
 let t ←Xb0 ts k 1 8192
 if t.text=[97,108,119,97,121,115] then .ok 3 else if t.text=[111,110,45,102,97,105,108,117,114,101] then .ok 2 else if t.text=[110,101,118,101,114] then .ok 1 else .error (flt 60 t)
def Xco (ts:List Tok) (k:Nat) (w:List UInt8) (j:JF):Except Flt (JF × Nat):=
 if w=Xh6 then (Xb0 ts k 3 512).map fun t=>({ j with run:=t.text },k+1)
 else if w=XfS then (Xmp ts k j.env).map fun v=>({ j with env:=j.env++[v] },k+3)
 else if w=Xdd then (XcF (Xej ts) 1 ts k []).map fun x=>({ j with needs:=x.1 },x.2)
 else if w=Xeh then (Xb0 ts k 4 128).map fun t=>({ j with hasr:=true,ready:=t.text },k+1)
 else if w=XcC then (XkP ts k).map fun n=>({ j with restart:=n },k+1)
 else if w=Xcm then do
  let a ←Xdk ts k
  let b ←Xdk ts (k+1)
  let c ←Xdk ts (k+2)
  .ok ({ j with base:=a,cap:=b,stable:=c },k+3)
 else if w=XdX then do
  let n ←Xdk ts k
  if n < 1∨16 < n then .error (flt 2 (tkA ts k)) else
  let m ←Xdk ts (k+1)
  .ok ({ j with burst:=n,window:=m },k+2)
 else (XcF (Xd4 ts) 2 ts k []).map fun x=>({ j with ladder:=x.1 },x.2)
def Xcc (ts:List Tok) (name:Tok) (k:Nat) (seen:List (List UInt8)) (j:JF):Except Flt (JF × Nat):=
 if gIs ts k [125] then (if seen.contains Xh6 then .ok (j,k+1) else .error (flt 6 name))
 else if (tkA ts k).kind≠1∨¬Xek.contains (tkA ts k).text then .error (flt 60 (tkA ts k))
 else if (tkA ts k).text≠XfS∧seen.contains (tkA ts k).text then .error (flt 5 (tkA ts k))
 else match Xco ts (k+1) (tkA ts k).text j with
  | .error f=>.error f
  | .ok x=>if h:k < x.2∧k < ts.length then Xcc ts name x.2 (if (tkA ts k).text=XfS then seen else seen++[(tkA ts k).text]) x.1 else .error (flt 60 (tkA ts k))
termination_by ts.length - k
decreasing_by omega
def XfR (t:Tok):JF:={ name:=t.text,run:=[],env:=[],needs:=[],hasr:=false,ready:=[],restart:=2,base:=100,cap:=10000,stable:=10000,burst:=5,window:=60000,ladder:=[(15,5000)],line:=t.line,col:=t.col }
def XhH (ts:List Tok) (k:Nat) (full:Bool):Except Flt (JF × Nat):=do
 let w ←Xb0 ts k 1 8192
 if w.text≠Xou then .error (flt 60 w) else
 let t ←Xdw ts (k+1) full
 Xfe ts (k+2) [123]
 Xcc ts t (k+3) [] (XfR t)
def Xdo (ts:List Tok) (k:Nat) (out:List JF):Except Flt (List JF):=
 if (tkA ts k).kind=6 then .ok out
 else match XhH ts k (decide (32≤out.length)) with
  | .error f=>.error f
  | .ok x=>if h:k < x.2∧k < ts.length then Xdo ts x.2 (out++[x.1]) else .ok out
termination_by ts.length - k
decreasing_by omega
def Xcz (s:List UInt8):Except Flt (List JF):=match lex s with
 | .error f=>.error f
 | .ok ts=>Xdo ts 0 []
end Go.Proofs.YtcmfamgnmehojaaGreatDoor
