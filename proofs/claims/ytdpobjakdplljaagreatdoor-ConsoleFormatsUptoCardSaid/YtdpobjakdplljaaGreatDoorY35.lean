import Derived.Test.YtdpobjakdplljaaGreatDoorY34
import Derived.RangeFuncWrites
import Derived.Lib.OthersKept
/- A walk over symbolic memory: objects that are no cells (a loop's record, a block of deferred calls) lie beside it, and turn. No program in sight. -/
set_option linter.unusedSimpArgs false
set_option linter.unusedVariables false
set_option maxRecDepth 100000
set_option maxHeartbeats 8000000
namespace Go.Proofs.YtdpobjakdplljaaGreatDoor
open Go.RowKit
section
variable {F F':Nat→Prop} {w w':World}
theorem Mem.cw {ad:Option Addr} {vals:List Value} (hc:∀b o v,¬F b→w.cell? ⟨b,o,none⟩=some v→¬F' b∧w'.cell? ⟨b,o,none⟩=some v) (h:Mem F w ad vals):Mem F' w' ad vals:=by
 rcases h with h|⟨b,o,rfl,hb,h⟩
 ·exact .inl h
 ·cases vals with
  | nil=>exact .inl rfl
  | cons v vs=>exact .inr ⟨b,o,rfl,(hc b _ v hb (h 0 v rfl).1).1,fun j u hj=>⟨(hc b _ u hb (h j u hj).1).2,(h j u hj).2⟩⟩
mutual
theorem Den.cw (hc:∀b o v,¬F b→w.cell? ⟨b,o,none⟩=some v→¬F' b∧w'.cell? ⟨b,o,none⟩=some v):(av:AV)→∀v,Den F w av v→Den F' w' av v
 | .x u,v,h=>by rw [Den] at h ⊢;exact h
 | .top,v,h=>by rw [Den];trivial
 | .sq n cells,v,h=>by
   rw [Den] at h ⊢
   obtain ⟨ad,cap,vals,h1,h2,h3,h4,h5,h6⟩:=h
   exact ⟨ad,cap,vals,h1,h2,h3,h4,h5.cw hc,XaV.cw hc cells vals h6⟩
 | .at_ cells,v,h=>by
   rw [Den] at h ⊢
   obtain ⟨b,o,vals,h1,h5,h6⟩:=h
   exact ⟨b,o,vals,h1,h5.cw hc,XaV.cw hc cells vals h6⟩
 | .agg cells,v,h=>by
   rw [Den] at h ⊢
   obtain ⟨vals,h1,h6⟩:=h
   exact ⟨vals,h1,XaV.cw hc cells vals h6⟩
 | .tup cells,v,h=>by
   rw [Den] at h ⊢
   obtain ⟨vals,h1,h6⟩:=h
   exact ⟨vals,h1,XaV.cw hc cells vals h6⟩
 | .ifc t av,v,h=>by
   rw [Den] at h ⊢
   obtain ⟨u,h1,h6⟩:=h
   exact ⟨u,h1,Den.cw hc av u h6⟩
 | .g p av,v,h=>by
   rw [Den] at h ⊢
   exact ⟨fun hp=>Den.cw hc av v (h.1 hp),h.2⟩
theorem XaV.cw (hc:∀b o v,¬F b→w.cell? ⟨b,o,none⟩=some v→¬F' b∧w'.cell? ⟨b,o,none⟩=some v):(l:List AV)→∀vs,XaV F w l vs→XaV F' w' l vs
 | [],vs,h=>by rw [XaV] at h ⊢;exact h
 | c :: cs,vs,h=>by
   rw [XaV] at h ⊢
   obtain ⟨u,us,e,h1,h2⟩:=h
   exact ⟨u,us,e,Den.cw hc c u h1,XaV.cw hc cs us h2⟩
end
theorem XfR.cw (hc:∀b o v,¬F b→w.cell? ⟨b,o,none⟩=some v→¬F' b∧w'.cell? ⟨b,o,none⟩=some v) (hs:w.heap.size≤w'.heap.size) :
  ∀{h:Hp},XfR F w h→(∀k,h.blk=some k→w'.heap[k]?=w.heap[k]?)→XfR F' w' h
 | .box b cells,⟨vals,h1,hl,h2⟩,hb=>⟨vals,XaV.cw hc _ _ h1,by omega,fun j u hj=>by
   have:=hb b rfl
   rw [World.cell?_of_block (a:=⟨b,j,none⟩) this,World.frozen?_of_block (a:=⟨b,j,none⟩) this];exact h2 j u hj⟩
 | .row ad n cap e size cells,⟨vals,h1,h2,h3⟩,hb=>by
   refine ⟨vals,XaV.cw hc _ _ h1,?_,h3⟩
   obtain ⟨hl,hn|⟨g,cap',cur,e',hbg,hg,r⟩⟩:=h2
   ·exact ⟨hl,.inl hn⟩
   ·refine ⟨hl,.inr ⟨g,cap',cur,e',hbg,?_,r⟩⟩
    have:ad=some ⟨g,0,none⟩:=by injection e'
    rw [hb g (by rw [this];rfl)];exact hg
end
section
variable {P:Program} {Δ Δ':List Deferred} {V O:Nat→Prop} {w0 w w':World} {B H H' H1 D:List Hp} {T T' T1:List AV} {a a' a1:Act} {o:Oper} {ops:Array Oper} {n:Nat}
theorem Rel.comp (r:Rel Δ V O w0 H T a w) (r':Rel Δ' V (XcS H) w H1 T1 a1 w'):Rel Δ' V O w0 H1 T1 a1 w' where
 tmps:=r'.tmps
 hok:=r'.hok
 fr:=r.fr.trans r'.fr fun i hi ⟨x,hx,e⟩=>(r.own x hx i e).resolve_right (by omega)
 own:=fun y hy k hk=>by
  rcases r'.own y hy k hk with ⟨x,hx,e⟩|h
  ·exact r.own x hx k e
  ·exact .inr (Nat.le_trans r.fr.size h)
 defers:=r'.defers
 vlt:=r.vlt
 gl:=r.gl
theorem Rel.anew (r:Rel Δ V O w0 H T a w):Rel Δ V (XcS H) w H T a w where
 tmps:=r.tmps
 hok:=r.hok
 fr:=Fr.refl _ _
 own:=fun x hx k hk=>.inl ⟨x,hx,hk⟩
 defers:=r.defers
 vlt:=fun k hk=>Nat.lt_of_lt_of_le (r.vlt k hk) r.fr.size
 gl:=r.gb
def dull:AV→Bool
 | .x _=>true
 | .top=>true
 | _=>false
theorem Den.dull {F F':Nat→Prop} {av:AV} {v:Value} (hd:dull av=true) (h:Den F w av v):Den F' w' av v:=by
 cases av<;>first|(cases hd;done)|(rw [Den] at h ⊢;exact h)|(rw [Den];trivial)
theorem XaV.dull {F F':Nat→Prop}:∀{T:List AV} {vs:List Value},(T.all Go.Proofs.YtdpobjakdplljaaGreatDoor.dull)=true→XaV F w T vs→XaV F' w' T vs
 | [],vs,_,h=>by rw [XaV] at h ⊢;exact h
 | c :: T,vs,hd,h=>by
   rw [XaV] at h ⊢
   obtain ⟨u,us,rfl,h1,h2⟩:=h
   rw [List.all_cons,Bool.and_eq_true] at hd
   exact ⟨u,us,rfl,h1.dull hd.1,XaV.dull hd.2 h2⟩
theorem Rel.redef (r:Rel Δ' V O w0 H T1 a1 w) (h:XaV (FB V H) w T a.tmps.toList) (hd:a.defers=Δ):Rel Δ V O w0 H T a w where
 tmps:=h
 hok:=r.hok
 fr:=r.fr
 own:=r.own
 defers:=hd
 vlt:=r.vlt
 gl:=r.gl
theorem Xj5 {l:Nat} {ob:Obj} (ob':Obj) (h:w.heap[l]?=some ob) (hc:ob.isCells=false) {x:Addr} {u:Value} (hx:w.cell? x=some u):(w.putObj l ob').cell? x=some u:=by
 have hne:x.block≠l:=by
  intro e
  unfold World.cell? at hx
  rw [e,h] at hx
  cases ob<;>first|(cases hc;done)|(cases hx;done)
 rw [World.cell?_of_block (World.putObj_heap_other hne)];exact hx
theorem Rel.putObj (r:Rel Δ V O w0 H T a w) {l:Nat} {ob:Obj} (ob':Obj) (h:w.heap[l]?=some ob) (hc:ob.isCells=false) (hb:¬XcS H l) (ho:O l∨w0.heap.size≤l):Rel Δ V O w0 H T a (w.putObj l ob'):=by
 have hsz:(w.putObj l ob').heap.size=w.heap.size:=by simp [World.putObj]
 have hk:∀b o v,¬FB V H b→w.cell? ⟨b,o,none⟩=some v→¬FB V H b∧(w.putObj l ob').cell? ⟨b,o,none⟩=some v:=fun b o v hF hv=>⟨hF,Xj5 ob' h hc hv⟩
 refine ⟨XaV.cw hk _ _ r.tmps,⟨fun x hx=>(r.hok.ok x hx).cw hk (by omega) fun k e=>World.putObj_heap_other fun e'=>hb ⟨x,hx,by rw [←e'];exact e⟩,r.hok.apart,fun x hx k e=>by rw [hsz];exact r.hok.lt x hx k e⟩,?_,r.own,r.defers,r.vlt,r.gl⟩
 refine r.fr.trans (O':=fun k=>k=l) ⟨rfl,rfl,rfl,by omega,fun k _ hn=>World.putObj_heap_other hn⟩ fun i hi e=>?_
 subst e
 exact ho.resolve_right (by omega)
def Trk (O:Nat→Prop) (w0:World) (H:List Hp) (w:World) (p:Nat × Obj):Prop:=w.heap[p.1]?=some p.2∧p.2=p.2∧¬XcS H p.1∧(O p.1∨w0.heap.size≤p.1)
theorem Trk.on {p:Nat × Obj} (t:Trk O w0 H w p) (r:Rel Δ V (XcS H) w H1 T1 a1 w'):Trk O w0 H1 w' p:=by
 obtain ⟨t1,t2,t3,t4⟩:=t
 have hlt:=(Array.getElem?_eq_some_iff.1 t1).1
 refine ⟨(r.fr.block p.1 hlt t3).trans t1,t2,fun ⟨x,hx,e⟩=>?_,t4⟩
 rcases r.own x hx p.1 e with h|h
 ·exact t3 h
 ·omega
theorem Trk.same {p:Nat × Obj} (t:Trk O w0 H w p) (h:∀k,XcS H1 k→XcS H k):Trk O w0 H1 w p:=⟨t.1,t.2.1,fun e=>t.2.2.1 (h _ e),t.2.2.2⟩
abbrev Xfc:=List Deferred→List (Nat × Obj)→XcR
def Xqp (V O:Nat→Prop) (w0:World) (Q:Xfc):Exit→Act→World→Prop:=fun e a w=>∃Δ Θ T H,Rel Δ V O w0 H T a w∧(∀p∈Θ,Trk O w0 H w p)∧Q Δ Θ e T H
def Xeb (P:Program) (Δ:List Deferred) (Θ:List (Nat × Obj)) (c:Code) (Q:Xfc) (T:List AV) (H:List Hp):Prop:=
 ∀V O w0 a w,Rel Δ V O w0 H T a w→(∀p∈Θ,Trk O w0 H w p)→c.wp P (Xqp V O w0 Q) a w
variable {Θ:List (Nat × Obj)} {Q:Xfc} {x y c:Code}
theorem XbW (h:awp P c (Q Δ Θ) T H):Xeb P Δ Θ c Q T H:=fun V O w0 a w r t=>
 wp_mono (h Δ V (XcS H) w a w r.anew) fun _ _ _ ⟨T',H',r',q⟩=>⟨Δ,Θ,T',H',r.comp r',fun p hp=>(t p hp).on r',q⟩
theorem XbG (h:Xeb P Δ Θ x (fun Δ Θ=>XaO (Xeb P Δ Θ y Q) (Q Δ Θ)) T H):Xeb P Δ Θ (.seq x y) Q T H:=fun V O w0 a w r t=>
 wp_seq (wp_mono (h V O w0 a w r t) fun e a w ⟨Δ,Θ,T,H,r,t,q⟩=>by
  cases e with
  | normal=>exact q V O w0 a w r t
  | _=>exact ⟨Δ,Θ,T,H,r,t,q⟩)
theorem Xa6 (h:awp P x (XaO (Xeb P Δ Θ y Q) (Q Δ Θ)) T H):Xeb P Δ Θ (.seq x y) Q T H:=XbG (XbW h)
theorem Xcn {id:Nat} (h:Xeb P Δ Θ c (fun Δ Θ=>Xat id (Q Δ Θ)) T H):Xeb P Δ Θ (.block id c) Q T H:=fun V O w0 a w r t=>
 wp_block (wp_mono (h V O w0 a w r t) fun e a w ⟨Δ,Θ,T,H,r,t,q⟩=>by
  cases e with
  | exit id'=>
    simp only [Xat] at q
    simp only [Exit.inBlock]
    split
    ·rename_i he;rw [if_pos he] at q;exact ⟨Δ,Θ,T,H,r,t,q⟩
    ·rename_i he;rw [if_neg he] at q;exact ⟨Δ,Θ,T,H,r,t,q⟩
  | _=>exact ⟨Δ,Θ,T,H,r,t,q⟩)
theorem XdV (h:XaH H T H' T'):∀k,XcS H' k→XcS H k:=by
 intro k ⟨x,hx,e⟩
 obtain ⟨D,R,hp,hH,-⟩:=h.ex
 obtain ⟨y,hy,hxy⟩:=hH.mem x hx
 exact ⟨y,hp.mem_iff.2 (by simp [hy]),hxy.blk▸e⟩
theorem Xdq {S:Type} (Tf:S→List AV) (Hf:S→List Hp) (Θf:S→List (Nat × Obj)) (Inv:S→Prop) (m:S→Nat) (s0:S) (h0:XaH H T (Hf s0) (Tf s0)) (hΘ:Θf s0=Θ) (hi:Inv s0)
  (round:∀s,Inv s→Xeb P Δ (Θf s) c (fun Δ' Θ'=>XaO (fun T' H'=>Δ'=Δ∧∃s',m s' < m s∧Inv s'∧Θ'=Θf s'∧XaH H' T' (Hf s') (Tf s')) (Q Δ' Θ')) (Tf s) (Hf s)):Xeb P Δ Θ (.loop c) Q T H:=by
 subst hΘ
 intro V O w0 a w r t
 have key:∀n s a w,m s=n→Inv s→Rel Δ V O w0 (Hf s) (Tf s) a w→(∀p∈Θf s,Trk O w0 (Hf s) w p)→∀(b:Frame) (k:List Item) (cs:List Frame),
   ∃e a' w',Xqp V O w0 Q e a' w'∧Arrives P (lone (b.at a (.code c :: .inLoop c :: k)) cs w) b k cs e a' w':=by
  intro n
  induction n using Nat.strongRecOn with
  | _ n ih=>
    intro s a w hn hI hr ht b k cs
    obtain ⟨e,a₁,w₁,⟨Δ1,Θ1,T1,H1,r1,t1,q1⟩,harr⟩:=round s hI V O w0 a w hr ht b (.inLoop c :: k) cs
    cases e with
    | normal=>
      obtain ⟨rfl,s',hlt,hI₁,rfl,hw⟩:=q1
      obtain ⟨e₂,a₂,w₂,hq₂,harr₂⟩:=ih (m s') (hn▸hlt) s' a₁ w₁ rfl hI₁ (r1.weaken hw) (fun p hp=>(t1 p hp).same (XdV hw)) b k cs
      exact ⟨e₂,a₂,w₂,hq₂,.of_steps (Steps.trans harr (.one step_inLoop)) harr₂⟩
    | exit id=>exact ⟨_,a₁,w₁,⟨Δ1,Θ1,T1,H1,r1,t1,q1⟩,.pass (x:=.inLoop c) rfl (fun _ _=>.inl (by simp)) harr⟩
    | goto l=>exact ⟨_,a₁,w₁,⟨Δ1,Θ1,T1,H1,r1,t1,q1⟩,.pass (x:=.inLoop c) rfl (fun _ _=>.inl (by simp)) harr⟩
    | ret=>exact ⟨_,a₁,w₁,⟨Δ1,Θ1,T1,H1,r1,t1,q1⟩,.pass (x:=.inLoop c) rfl (fun _ _=>.inl (by simp)) harr⟩
    | panic ch=>exact ⟨_,a₁,w₁,⟨Δ1,Θ1,T1,H1,r1,t1,q1⟩,.pass (x:=.inLoop c) rfl (fun _ _=>.inl (by simp)) harr⟩
    | outgrown=>exact ⟨_,a₁,w₁,⟨Δ1,Θ1,T1,H1,r1,t1,q1⟩,.pass (x:=.inLoop c) rfl (fun _ _=>.inl (by simp)) harr⟩
 intro b k cs
 obtain ⟨e,a',w',hq,harr⟩:=key _ s0 a w rfl hi (r.weaken h0) (fun p hp=>(t p hp).same (XdV h0)) b k cs
 exact ⟨e,a',w',hq,.of_steps (.one step_loop) harr⟩
end
open Go.RowKit
section
variable {P:Program} {Δ Δ':List Deferred} {V O:Nat→Prop} {w0 w w':World} {B H H' H1 D:List Hp} {T T' T1 Tp:List AV} {a a' a1:Act} {o:Oper} {ops:Array Oper} {n:Nat}
variable {Θ:List (Nat × Obj)} {Q:Xfc} {x y c:Code}
def Xgm (ρ:Loop):Loop:={ ρ with state:=.done,pending:=some .ret }
theorem XqT {l:Nat} {ρ:Loop} {f:FuncId} {tm:Array Value} {assign body:Code} {QB:XcR} (r:Rel Δ V O w0 H T a w) (hl:w.heap[l]?=some (.loop ρ)) (hst:ρ.state=.ready) (hpe:ρ.pending=none) (hb:¬XcS H l) (ho:O l∨w0.heap.size≤l)
  (htm:XaV (FB V H) w Tp tm.toList) (h:Xiv P assign (fun e T1 H1=>e=.normal∧Xiv P body QB T1 H1) Tp H) (hQB:∀e T H,QB e T H→e=.normal∨e=.ret) (ht:∀p∈Θ,Trk O w0 H w p∧p.1≠l) :
  RoundIn Fence.wide n P l f tm assign body w fun e w'=>∃T' H' a',Rel [] V O w0 H' T' a' w'∧(∀p∈Θ,Trk O w0 H' w' p) ∧
   ((e=.returned (.bool true)∧QB .normal T' H'∧Trk O w0 H' w' (l,.loop ρ))∨(e=.returned (.bool false)∧QB .ret T' H'∧Trk O w0 H' w' (l,.loop (Xgm ρ)))):=by
 have r0:Rel [] V O w0 H Tp { tmps:=tm,defers:=[] } w:=r.redef htm rfl
 refine roundIn_of_wpIn trivial (wpIn_mono (h l n [] V (XcS H) w _ w r0.anew) ?_)
 rintro e a1 w1 ⟨T1,H1,r1,rfl,hbody⟩
 have hl1:Trk O w0 H1 w1 (l,.loop ρ):=Trk.on (H:=H) ⟨hl,rfl,hb,ho⟩ r1
 have r1':=r0.comp r1
 refine ⟨_,run_beginRound hl1.1 hst,?_⟩
 have r2:=r1'.putObj (.loop { ρ with state:=.busy }) hl1.1 rfl hl1.2.2.1 hl1.2.2.2
 have hlt:=(Array.getElem?_eq_some_iff.1 hl1.1).1
 have hl2:Trk O w0 H1 (w1.putObj l (.loop { ρ with state:=.busy })) (l,.loop { ρ with state:=.busy }):=⟨World.putObj_heap_same hlt,rfl,hl1.2.2⟩
 have ht2:∀p∈Θ,Trk O w0 H1 (w1.putObj l (.loop { ρ with state:=.busy })) p:=fun p hp=>by
  have q:=(ht p hp).1.on r1
  exact ⟨(World.putObj_heap_other (ht p hp).2).trans q.1,q.2⟩
 refine wpIn_mono (hbody l n [] V (XcS H1) _ _ _ r2.anew) ?_
 rintro e a3 w3 ⟨T3,H3,r3,q⟩
 have r3':=r2.comp r3
 have hl3:=hl2.on r3
 have ht3:∀p∈Θ,Trk O w0 H3 w3 p:=fun p hp=>(ht2 p hp).on r3
 have hlt3:=(Array.getElem?_eq_some_iff.1 hl3.1).1
 have fin:∀ob:Obj,ob.isCells=false→Rel [] V O w0 H3 T3 a3 (w3.putObj l ob)∧(∀p∈Θ,Trk O w0 H3 (w3.putObj l ob) p)∧Trk O w0 H3 (w3.putObj l ob) (l,ob):=fun ob hob=>
  ⟨r3'.putObj ob hl3.1 rfl hl3.2.2.1 hl3.2.2.2,fun p hp=>⟨(World.putObj_heap_other (ht p hp).2).trans (ht3 p hp).1,(ht3 p hp).2⟩,⟨World.putObj_heap_same hlt3,rfl,hl3.2.2⟩⟩
 rcases hQB _ _ _ q with rfl|rfl
 ·have hrun:=run_endRound (P:=P) none hl3.1
  refine ⟨_,_,hrun,T3,H3,a3,(fin _ rfl).1,(fin _ rfl).2.1,.inl ⟨rfl,q,?_⟩⟩
  have e0:({ { ρ with state:=LoopState.busy } with state:=if (none:Option Code).isNone then LoopState.ready else LoopState.done,pending:=none }:Loop)=ρ:=by
   cases ρ;simp only at hst hpe;subst hst;subst hpe;rfl
  have:=(fin (.loop ρ) rfl).2.2
  rw [←e0] at this ⊢
  exact this
 ·have hrun:=run_endRound (P:=P) (some .ret) hl3.1
  exact ⟨_,_,hrun,T3,H3,a3,(fin _ rfl).1,(fin _ rfl).2.1,.inr ⟨rfl,q,(fin _ rfl).2.2⟩⟩
def Xdc (P:Program) (Δ:List Deferred) (Θ:List (Nat × Obj)) (ops:Array Oper) (Q:Xfc) (rest:List Oper) (T:List AV) (H:List Hp):Prop:=
 ∀V O w0 a w,Rel Δ V O w0 H T a w→(∀p∈Θ,Trk O w0 H w p)→wpListIn Fence.wide 0 P ops (Xqp V O w0 Q) rest a w
theorem XbX {id:Nat} {L:List Oper} (h:Xdc P Δ Θ L.toArray Q L T H):Xeb P Δ Θ (.region id L.toArray false) Q T H:=fun V O w0 a w r t=>wpIn_wide.1 (wpIn_region_lit (h V O w0 a w r t))
theorem Xce (h:Q Δ Θ .normal T H):Xdc P Δ Θ ops Q [] T H:=fun V O w0 a w r t=>wpListIn_nil ⟨Δ,Θ,T,H,r,t,h⟩
theorem Xfz {K:Act→World→Prop} {Qe:Exit→Act→World→Prop} (h:o.wp P a w K Qe):o.wpIn Fence.wide n P a w K Qe:=by
 refine ⟨fun _ _=>trivial,?_⟩
 rw [show Fence.wide.round=none from rfl,Oper.semAt_none]
 unfold Oper.wp at h
 generalize (execOp a.eval o).run P w=r at h
 cases r with
 | halt k w'=>cases k<;>first|exact h|exact h.elim
 | ok x w'=>
   cases x
   case value v=>exact h
   case skip=>exact h
   case defer d=>exact h
   case enter f args=>exact ⟨fun e=>(by cases e),callsIn_wide.2 h⟩
   case row r args=>exact ⟨fun e=>(by cases e),fun c cs _=>by
    obtain ⟨v,w2,hR,hs⟩:=h c cs
    exact ⟨v,w2,hR,stepsIn_wide.2 hs⟩⟩
   all_goals exact h.elim
theorem Xb4 {T':List AV} {rest:List Oper} (hg:o.guard=none) (av:AV) (h:Evl P o (ev T) H av) (hT:Xb7 T o.dst av=T') (hK:Xdc P Δ Θ ops Q rest T' H):Xdc P Δ Θ ops Q (o :: rest) T H:=fun V O w0 a w r t=>
 wpListIn_plain hg fun K hKc=>Xfz (h V a w K _ (r.oks o) fun v w' he hd=>hKc _ _ (hK V O w0 _ _ (hT▸(r.quiet he).put _ hd) fun p hp=>by
  obtain ⟨t1,t2,t3,t4⟩:=t p hp
  exact ⟨(he.block p.1 (Array.getElem?_eq_some_iff.1 t1).1).trans t1,t2,t3,t4⟩))
theorem Xj1 {rest:List Oper} {cal:Operand} {args:Array Operand} {tys:Array TypeId} {vals:Array Value} {l:Nat} {ρ:Loop} (hg:o.guard=none) (ho:o.op=.call { callee:=.value cal,args:=args,argTypes:=tys }) (hc:ev T cal=.x (.func (.yield l) #[] #[]))
  (ha:args.toList.map (ev T)=vals.toList.map .x) (hps:vals.size=ρ.params.size) (hst:ρ.state=.ready) (hpe:ρ.pending=none) (hT:T.all dull=true) {QB:XcR}
  (htm:∀F w,XaV F w Tp ((ρ.params.zip vals).foldl (fun tmps (t,a)=>tmps.setIfInBounds t a) ρ.tmps).toList)
  (hne:∀p∈Θ,p.1≠l)
  (h:Xiv P ρ.assign (fun e T1 H1=>e=.normal∧Xiv P ρ.body QB T1 H1) Tp H) (hQB:∀e T H,QB e T H→e=.normal∨e=.ret)
  (hn:∀T1 H1,QB .normal T1 H1→Xdc P Δ ((l,.loop ρ) :: Θ) ops Q rest (Xb7 T o.dst (.x (.bool true))) H1)
  (hr:∀T1 H1,QB .ret T1 H1→Xdc P Δ ((l,.loop (Xgm ρ)) :: Θ) ops Q rest (Xb7 T o.dst (.x (.bool false))) H1) :
  Xdc P Δ ((l,.loop ρ) :: Θ) ops Q (o :: rest) T H:=fun V O w0 a w r t=>wpListIn_plain hg fun K hK=>by
 obtain ⟨tl,tls⟩:=List.forall_mem_cons.1 t
 have hargs:args.map a.eval=vals:=by
  apply Array.toList_inj.1
  rw [Array.toList_map]
  apply List.ext_getElem?
  intro i
  have:=congrArg (fun l=>l[i]?) ha
  simp only [List.getElem?_map] at this ⊢
  cases h1:args.toList[i]? with
  | none=>rw [h1] at this;cases h2:vals.toList[i]? with
    | none=>rfl
    | some v=>rw [h2] at this;cases this
  | some x=>rw [h1] at this;cases h2:vals.toList[i]? with
    | none=>rw [h2] at this;cases this
    | some v=>
      rw [h2] at this
      simp only [Option.map_some,Option.some.injEq] at this ⊢
      exact r.evx this
 have hrun:(execOp a.eval o).run P w=.ok (.round l ρ.fn ((ρ.params.zip vals).foldl (fun tmps (t,a)=>tmps.setIfInBounds t a) ρ.tmps) ρ.assign ρ.body) w:=by
  have hy:=run_yield (P:=P) (args:=vals) tl.1 hps
  have hcv:a.eval cal=.func (.yield l) #[] #[]:=r.evx hc
  simp [execOp,ho,hcv,hargs,resolve,Deferred.ofValue,invoke,hy]
 refine ⟨fun _ _=>trivial,?_⟩
 rw [show Fence.wide.round=none from rfl,Oper.semAt_none,hrun,Oper.uponIn_round]
 refine ⟨fun e=>(by cases e),(XqT r tl.1 hst hpe tl.2.2.1 tl.2.2.2 (htm _ _) h hQB (Θ:=Θ) fun p hp=>⟨tls p hp,hne p hp⟩).mono ?_⟩
 rintro e w' ⟨T1,H1,a1,r1,t1,h1⟩
 have hd:a.defers=Δ:=r.defers
 rcases h1 with ⟨rfl,q,tk⟩|⟨rfl,q,tk⟩
 ·have r2:Rel Δ V O w0 H1 T a w':=r1.redef (r.tmps.dull hT) hd
  exact hK _ _ (hn T1 H1 q V O w0 _ _ (r2.put o.dst (v:=.bool true) (by rw [Den])) fun p hp=>by
   rcases List.mem_cons.1 hp with rfl|hp
   ·exact tk
   ·exact t1 p hp)
 ·have r2:Rel Δ V O w0 H1 T a w':=r1.redef (r.tmps.dull hT) hd
  exact hK _ _ (hr T1 H1 q V O w0 _ _ (r2.put o.dst (v:=.bool false) (by rw [Den])) fun p hp=>by
   rcases List.mem_cons.1 hp with rfl|hp
   ·exact tk
   ·exact t1 p hp)
theorem Xmi (w:World) (x y:Obj):Ext w ((w.alloc x).alloc y):=(Ext.al w x).tr (Ext.al _ y)
def itT (l:Nat) (lb:Array Value) (fn:Func):List AV:=(.x (.func (.yield l) #[] #[]) :: lb.toList.map .x)++List.replicate (fn.ntmps - (1+lb.size)) .top
def Xjf (D:Nat):Deferred:={ target:=.collected D,args:=#[] }
def itQ (l D:Nat) (ρ:Loop) (KN KR:List Hp→Prop):Xfc:=fun Δ Θ e _ H=>(e=.ret∨e=.normal)∧Δ=[]∧((Θ=[(l,.loop ρ),(D,.deferred (some []))]∧KN H)∨(Θ=[(l,.loop (Xgm ρ)),(D,.deferred (some []))]∧KR H))
theorem XgX {g:Operand} {ps:Array Tmp} {assign body cb:Code} {gf:FuncId} {lb:Array Value} {fn:Func} (KN KR:List Hp→Prop) (hT:T.all dull=true) (hg:ev T g=.x (.func (.func gf) #[] lb)) (hf:P.funcs[gf]?=some fn) (hnm:fn.name≠ "runtime.NumGoroutine") (hb:fn.body=some cb) (hres:fn.results=#[])
  (hit:∀l D ρ,l≠D→ρ.state=.ready→ρ.pending=none→ρ.params=ps→ρ.assign=assign→ρ.body=body→(∀F w,XaV F w T ρ.tmps.toList) →
   Xeb P [] [(l,.loop ρ),(D,.deferred (some []))] cb (itQ l D ρ KN KR) (itT l lb fn) H)
  (hN:∀D H',KN H'→Q (Xjf D :: Δ) [(D,.deferred (some []))] .normal T H')
  (hR:∀D H',KR H'→Q (Xjf D :: Δ) [(D,.deferred (some []))] .ret T H'):Xeb P Δ [] (.rangeFunc g ps assign body) Q T H:=by
 intro V O w0 a w r _
 refine (wpIn_wide (n:=0)).1 (wpIn_rangeFunc ?_)
 intro f _
 obtain ⟨ρ,hρ⟩:∃ρ:Loop,ρ={ state:=.ready,pending:=none,fn:=f,tmps:=a.tmps,params:=ps,assign,body,defers:=w.heap.size }:=⟨_,rfl⟩
 obtain ⟨w1,hw1⟩:∃w1,(w.alloc (.deferred (some []))).alloc (.loop ρ)=w1:=⟨_,rfl⟩
 have hE:Ext w w1:=by rw [←hw1];exact Xmi _ _ _
 have hl:w1.heap[w.heap.size+1]?=some (.loop ρ):=by
  rw [←hw1];have:=World.alloc_heap_new (w.alloc (.deferred (some []))) (.loop ρ);rwa [World.size_alloc] at this
 have hD:w1.heap[w.heap.size]?=some (.deferred (some [])):=by
  rw [←hw1];exact (Below.heap_alloc _ _ _ (by simp)).trans (World.alloc_heap_new w _)
 have hnb:∀k,w.heap.size≤k→¬XcS H k:=fun k hk ⟨x,hx,e⟩=>by have:=(r.hok.lt x hx k e).1;omega
 have r1:Rel Δ V O w0 H T a w1:=r.quiet hE
 have tl:Trk O w0 H w1 (w.heap.size+1,.loop ρ):=⟨hl,rfl,hnb _ (by simp),.inr (Nat.le_trans r.fr.size (by simp))⟩
 have tD:Trk O w0 H w1 (w.heap.size,.deferred (some [])):=⟨hD,rfl,hnb _ (by simp),.inr r.fr.size⟩
 have hTa:∀F w,XaV F w T ρ.tmps.toList:=fun F w=>by rw [hρ];exact r.tmps.dull hT
 refine ⟨w.heap.size+1,[Xjf w.heap.size],w1,{ target:=.fn (.func gf) lb,args:=#[.func (.yield (w.heap.size+1)) #[] #[]] },w1,gf,#[.func (.yield (w.heap.size+1)) #[] #[]]++lb,w1,?_,?_,fun _ _=>trivial,?_,fun e=>(by cases e),?_⟩
 ·rw [←hw1,hρ];exact run_enterLoop_outer _ _ _ _ _
 ·have hgv:a.eval g=.func (.func gf) #[] lb:=r.evx hg
  simp only [resolve,hgv]
  simp [go_sem,Deferred.ofValue]
 ·simp [invoke,callFunc,hf,hnm,hb]
 ·refine callsIn_wide.2 (calls_of_wp hf hb ?_)
  have r2:Rel [] V O w0 H (itT (w.heap.size+1) lb fn) { tmps:=(#[Value.func (.yield (w.heap.size+1)) #[] #[]]++lb)++Array.replicate (fn.ntmps - (#[Value.func (.yield (w.heap.size+1)) #[] #[]]++lb).size) undef,defers:=[] } w1:=by
   refine r1.redef ?_ rfl
   unfold itT
   simp only [Array.toList_append,Array.toList_replicate,Array.size_append,List.size_toArray,Xvy,XvB]
   refine XaV.app ?_ (XaV.of (by simp) fun j av u h1 h2=>?_)
   ·exact XaV.exact (l:=_ :: lb.toList)
   ·rw [List.getElem?_replicate] at h1
    split at h1
    ·cases h1;rw [Den];trivial
    ·cases h1
  refine wp_mono (hit (w.heap.size+1) w.heap.size ρ (by omega) (by rw [hρ]) (by rw [hρ]) (by rw [hρ]) (by rw [hρ]) (by rw [hρ]) hTa V O w0 _ w1 r2 (by
   intro p hp
   rcases List.mem_cons.1 hp with rfl|hp
   ·exact tl
   ·rw [List.mem_singleton] at hp;subst hp;exact tD)) ?_
  rintro e a3 w3 ⟨Δ3,Θ3,T3,H3,r3,t3,he,rfl,hq⟩
  have hres0:(results fn a3.tmps).run P w3=.ok (.tuple #[]) w3:=by simp [results,hres]
  have back:rangePost Fence.wide 0 P (w.heap.size+1) (Xqp V O w0 Q) { a with defers:=[Xjf w.heap.size]++a.defers } (.returned (.tuple #[])) w3:=by
   have hrel:∀w4,Rel [] V O w0 H3 T3 a3 w4→Rel (Xjf w.heap.size :: Δ) V O w0 H3 T { a with defers:=[Xjf w.heap.size]++a.defers } w4:=fun w4 r4=>r4.redef (r.tmps.dull hT) (by rw [r.defers];rfl)
   rcases hq with ⟨rfl,hK⟩|⟨rfl,hK⟩
   ·have hl3:=t3 _ (List.mem_cons_self ..)
    have hD3:=t3 _ (List.mem_cons_of_mem _ (List.mem_singleton.2 rfl))
    refine ⟨_,_,run_endLoop hl3.1 (by rw [hρ];simp),?_⟩
    have e0:ρ.pending=none:=by rw [hρ]
    rw [e0]
    refine ⟨_,[(w.heap.size,.deferred (some []))],T,H3,hrel _ (r3.putObj _ hl3.1 rfl hl3.2.2.1 hl3.2.2.2),fun p hp=>?_,hN _ _ hK⟩
    rw [List.mem_singleton] at hp;subst hp
    exact ⟨(World.putObj_heap_other (by simp)).trans hD3.1,hD3.2⟩
   ·have hl3:=t3 _ (List.mem_cons_self ..)
    have hD3:=t3 _ (List.mem_cons_of_mem _ (List.mem_singleton.2 rfl))
    refine ⟨_,_,run_endLoop hl3.1 (by simp [Xgm]),?_⟩
    refine wpIn_ret ⟨_,[(w.heap.size,.deferred (some []))],T,H3,hrel _ (r3.putObj _ hl3.1 rfl hl3.2.2.1 hl3.2.2.2),fun p hp=>?_,hR _ _ hK⟩
    rw [List.mem_singleton] at hp;subst hp
    exact ⟨(World.putObj_heap_other (by simp)).trans hD3.1,hD3.2⟩
  rcases he with rfl|rfl
  ·exact ⟨r3.defers,_,hres0,back⟩
  ·exact ⟨r3.defers,_,hres0,back⟩
def XuP (P:Program) (fn:Func) (Q:AV→List Hp→Prop):Xfc:=fun Δ Θ e T H=>(e=.ret∨e=.normal)∧(Δ=[]∨∃D,Δ=[Xjf D]∧(D,.deferred (some []))∈Θ)∧∃r H',Res P fn T H r H'∧Q r H'
theorem Xcb {fn:Func} {Q:AV→List Hp→Prop} {e:Exit} (h:Xbr P fn Q e T H):XuP P fn Q [] Θ e T H:=⟨h.1,.inl rfl,h.2⟩
theorem XnP {fn:Func} {Q:AV→List Hp→Prop} {e:Exit} {D:Nat} (h:Xbr P fn Q e T H):XuP P fn Q [Xjf D] [(D,.deferred (some []))] e T H:=⟨h.1,.inr ⟨D,rfl,List.mem_singleton.2 rfl⟩,h.2⟩
theorem XhK {f:FuncId} {fn:Func} {c:Code} {args:List AV} {Q:AV→List Hp→Prop} (hf:P.funcs[f]?=some fn) (hb:fn.body=some c)
  (h:Xeb P [] [] c (XuP P fn Q) (args++List.replicate (fn.ntmps - args.length) .top) H):Xa3 P f H args Q:=by
 intro V w vs hV hH hd hgl
 have hlen:=hd.len
 refine (callsIn_wide (n:=0)).1 (callsIn_of_wp_marks hf hb trivial (wpIn_wide.2 ?_))
 have r:Rel [] V (XcS H) w H (args++List.replicate (fn.ntmps - args.length) .top) { tmps:=vs.toArray++Array.replicate (fn.ntmps - vs.toArray.size) undef,defers:=[] } w:=by
  refine ⟨?_,hH,Fr.refl _ _,fun x hx k hk=>.inl ⟨x,hx,hk⟩,rfl,hV,hgl⟩
  simp only [Array.toList_append,Array.toList_replicate,List.size_toArray,hlen]
  refine hd.app (XaV.of (by simp) fun j av u h1 h2=>?_)
  rw [List.getElem?_replicate] at h1
  split at h1
  ·cases h1;rw [Den];trivial
  ·cases h1
 refine wp_mono (h V (XcS H) w _ w r (fun p hp=>by cases hp)) ?_
 rintro e a' w' ⟨Δ1,Θ1,T',H1,r1,t1,he,hΔ,res,H',hres,hq⟩
 have fin:∀w2,Rel Δ1 V (XcS H) w H1 T' a' w2→∃v,(results fn a'.tmps).run P w2=.ok v w2∧∃r H' v',Q r H'∧Ending.returned v=.returned v'∧Den (FB V H') w2 r v'∧HOk V w2 H'∧Fr (XcS H) w w2∧∀h∈H',∀k,h.blk=some k→XcS H k∨w.heap.size≤k:=fun w2 r2=>by
  obtain ⟨v,g1,g2,g3,g4⟩:=hres _ V (XcS H) w a' w2 r2
  exact ⟨v,g1,res,H',v,hq,rfl,g2,g3,r2.fr,fun x hx k hk=>by obtain ⟨y,hy,e⟩:=g4 x hx k hk;exact r2.own y hy k e⟩
 have hleave:LeavesInM Fence.wide 0 P fn a'.tmps (fun e w'=>∃r H' v,Q r H'∧e=.returned v∧Den (FB V H') w' r v∧HOk V w' H'∧Fr (XcS H) w w'∧∀h∈H',∀k,h.blk=some k→XcS H k∨w.heap.size≤k) a'.defers .returning w':=by
  rw [r1.defers]
  rcases hΔ with rfl|⟨D,rfl,hm⟩
  ·exact fin w' r1
  ·have tD:=t1 _ hm
   exact ⟨by simp,.inl ⟨D,_,rfl,run_takeDeferred tD.1,fin _ (r1.putObj _ tD.1 rfl tD.2.2.1 tD.2.2.2)⟩⟩
 rcases he with rfl|rfl
 ·exact hleave
 ·exact hleave
end
open Go.RowKit Go.Lib
section
variable {P:Program} {Δ Δ':List Deferred} {V O:Nat→Prop} {w0 w w':World} {H H':List Hp} {T T':List AV} {a a':Act} {o:Oper} {ops:Array Oper}
variable {Θ:List (Nat × Obj)} {Q:Xfc}
theorem Xgg {rest:List Oper} {x:Operand} {t:TypeId} {s:ByteArray} (hg:o.guard=none) (ho:o.op=.range t x) (hx:ev T x=.x (.string s)) (ht:P.underlying t=some .string)
  (hK:∀k,(∀p∈Θ,p.1≠k)→Xdc P Δ ((k,.stringIter s 0) :: Θ) ops Q rest (Xb7 T o.dst (.x (.pointer (some ⟨k,0,none⟩)))) H):Xdc P Δ Θ ops Q (o :: rest) T H:=fun V O w0 a w r t'=>wpListIn_plain hg fun K hKc=>by
 have hrun:(execOp a.eval o).run P w=.ok (.value (.pointer (some ⟨w.heap.size,0,none⟩))) (w.alloc (.stringIter s 0)):=by
  have hxv:a.eval x=.string s:=r.evx hx
  simp [execOp,ho,hxv,Instr.range,run_underlying ht,run_newObj_alloc,Result.andThen]
 refine Xfz ?_
 unfold Oper.wp
 rw [hrun]
 have hE:Ext w (w.alloc (.stringIter s 0)):=Ext.al _ _
 have hnb:¬XcS H w.heap.size:=fun ⟨y,hy,e⟩=>by have:=(r.hok.lt y hy _ e).1;omega
 refine hKc _ _ (hK w.heap.size (fun p hp e=>?_) V O w0 _ _ ((r.quiet hE).put o.dst (v:=.pointer (some ⟨w.heap.size,0,none⟩)) (by rw [Den])) fun p hp=>?_)
 ·have:=(Array.getElem?_eq_some_iff.1 (t' p hp).1).1;omega
 ·rcases List.mem_cons.1 hp with rfl|hp
  ·exact ⟨World.alloc_heap_new w _,rfl,hnb,.inr r.fr.size⟩
  ·obtain ⟨t1,t2,t3,t4⟩:=t' p hp
   exact ⟨(hE.block p.1 (Array.getElem?_eq_some_iff.1 t1).1).trans t1,t2,t3,t4⟩
theorem Xg9 {rest:List Oper} {x:Operand} {k pos:Nat} {s:List UInt8} (hg:o.guard=none) (ho:o.op=.next x true) (hx:ev T x=.x (.pointer (some ⟨k,0,none⟩))) (h:pos < s.length) (ha:(s[pos]).toNat < 128) (hne:∀p∈Θ,p.1≠k)
  (hK:Xdc P Δ ((k,.stringIter (bs s) (pos+1)) :: Θ) ops Q rest (Xb7 T o.dst (.x (.tuple #[.bool true,.int .i64 pos,.int .i32 s[pos].toNat]))) H):Xdc P Δ ((k,.stringIter (bs s) pos) :: Θ) ops Q (o :: rest) T H:=fun V O w0 a w r t'=>wpListIn_plain hg fun K hKc=>by
 obtain ⟨tk,tks⟩:=List.forall_mem_cons.1 t'
 have hxv:a.eval x=.pointer (some ⟨k,0,none⟩):=r.evx hx
 have hsz:(bs s).size=s.length:=by simp [bs,ByteArray.size]
 have hgt:(bs s)[pos]'(by omega)=s[pos]:=by simp [bs,ByteArray.getElem_eq_getElem_data]
 have hn:=run_next_ascii_at (P:=P) w k (bs s) pos o.type tk.1 (by omega) (by rw [hgt];exact ha)
 rw [hgt] at hn
 have hrun:(execOp a.eval o).run P w=.ok (.value (.tuple #[.bool true,.int .i64 pos,.int .i32 s[pos].toNat])) (w.iterAt k (bs s) (pos+1)):=by
  simp [execOp,ho,hxv,hn,Result.andThen]
 refine Xfz ?_
 unfold Oper.wp
 rw [hrun]
 have r2:Rel Δ V O w0 H T a (w.iterAt k (bs s) (pos+1)):=r.putObj (.stringIter (bs s) (pos+1)) tk.1 rfl tk.2.2.1 tk.2.2.2
 refine hKc _ _ (hK V O w0 _ _ (r2.put o.dst (v:=.tuple #[.bool true,.int .i64 pos,.int .i32 s[pos].toNat]) (by rw [Den])) fun p hp=>?_)
 rcases List.mem_cons.1 hp with rfl|hp
 ·exact ⟨World.putObj_heap_same (Array.getElem?_eq_some_iff.1 tk.1).1,rfl,tk.2.2⟩
 ·exact ⟨(World.putObj_heap_other (hne p hp)).trans (tks p hp).1,(tks p hp).2⟩
theorem Xha {rest:List Oper} {x:Operand} {k pos:Nat} {s:List UInt8} (hg:o.guard=none) (ho:o.op=.next x true) (hx:ev T x=.x (.pointer (some ⟨k,0,none⟩))) (h:¬pos < s.length)
  (hK:Xdc P Δ ((k,.stringIter (bs s) pos) :: Θ) ops Q rest (Xb7 T o.dst (.x (.tuple #[.bool false]))) H):Xdc P Δ ((k,.stringIter (bs s) pos) :: Θ) ops Q (o :: rest) T H:=fun V O w0 a w r t'=>wpListIn_plain hg fun K hKc=>by
 have tk:=t' _ (List.mem_cons_self ..)
 have hxv:a.eval x=.pointer (some ⟨k,0,none⟩):=r.evx hx
 have hsz:(bs s).size=s.length:=by simp [bs,ByteArray.size]
 have hn:=run_next_end_at (P:=P) w k (bs s) pos o.type tk.1 (by omega)
 have hrun:(execOp a.eval o).run P w=.ok (.value (.tuple #[.bool false])) w:=by
  simp [execOp,ho,hxv,hn,Result.andThen]
 refine Xfz ?_
 unfold Oper.wp
 rw [hrun]
 exact hKc _ _ (hK V O w0 _ _ (r.put o.dst (v:=.tuple #[.bool false]) (by rw [Den])) t')
section
variable {x y z u v c':Code}
theorem Xnl (h:awp P x (XaO (awp P y (XaO (Xeb P Δ Θ z Q) (Q Δ Θ))) (Q Δ Θ)) T H):Xeb P Δ Θ (.seq x (.seq y z)) Q T H:=Xa6 (XfS h fun e T H q=>by
 cases e with
 | normal=>exact Xa6 q
 | _=>exact q)
theorem Xnm (h:awp P x (XaO (awp P y (XaO (awp P u (XaO (Xeb P Δ Θ z Q) (Q Δ Θ))) (Q Δ Θ))) (Q Δ Θ)) T H):Xeb P Δ Θ (.seq x (.seq y (.seq u z))) Q T H:=Xa6 (XfS h fun e T H q=>by
 cases e with
 | normal=>exact Xnl q
 | _=>exact q)
theorem Xnn (h:awp P x (XaO (awp P y (XaO (awp P u (XaO (awp P v (XaO (Xeb P Δ Θ z Q) (Q Δ Θ))) (Q Δ Θ))) (Q Δ Θ))) (Q Δ Θ)) T H):Xeb P Δ Θ (.seq x (.seq y (.seq u (.seq v z)))) Q T H:=Xa6 (XfS h fun e T H q=>by
 cases e with
 | normal=>exact Xnm q
 | _=>exact q)
theorem Xno (h:awp P x (XaO (awp P y (XaO (awp P u (XaO (awp P v (XaO (awp P c' (XaO (Xeb P Δ Θ z Q) (Q Δ Θ))) (Q Δ Θ))) (Q Δ Θ))) (Q Δ Θ))) (Q Δ Θ)) T H):Xeb P Δ Θ (.seq x (.seq y (.seq u (.seq v (.seq c' z))))) Q T H:=Xa6 (XfS h fun e T H q=>by
 cases e with
 | normal=>exact Xnn q
 | _=>exact q)
end
theorem Xnj {c:Code} (h:Xeb P Δ [] c Q T H):Xeb P Δ Θ c Q T H:=fun V O w0 a w r _=>h V O w0 a w r fun p hp=>by cases hp
end
end Go.Proofs.YtdpobjakdplljaaGreatDoor
