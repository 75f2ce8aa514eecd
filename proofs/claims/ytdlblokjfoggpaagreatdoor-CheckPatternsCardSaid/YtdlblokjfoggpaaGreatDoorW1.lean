import Derived.Test.YtdlblokjfoggpaaGreatDoorW0
/- A walk over symbolic memory: what is known of each slot (AV), of each block that the call owns (Hp), and that the rest stays. No program in sight. -/
set_option linter.unusedSimpArgs false
set_option linter.unusedVariables false
set_option maxRecDepth 100000
set_option maxHeartbeats 8000000
namespace Go.Proofs.YtdlblokjfoggpaaGreatDoor
open Go.RowKit
inductive AV where
 | x (v:Value)
 | top
 | sq (n:Nat) (cells:List AV)
 | at_ (cells:List AV)
 | agg (cells:List AV)
 | tup (l:List AV)
 | ifc (t:TypeId) (v:AV)
 | g (p:Bool) (v:AV)
 deriving Inhabited
def Mem (F:Nat→Prop) (w:World) (ad:Option Addr) (vals:List Value):Prop:=
 vals=[]∨∃b o,ad=some ⟨b,o,none⟩∧¬F b∧∀j u,vals[j]?=some u→w.cell? ⟨b,o+j,none⟩=some u∧u.oneCell'=true
mutual
def Den (F:Nat→Prop) (w:World):AV→Value→Prop
 | .x u,v=>v=u
 | .top,_=>True
 | .sq n cells,v=>∃ad cap vals,v=.slice ad n cap∧n≤cap∧cap≤maxLen∧(ad=none→cap=0)∧Mem F w ad vals∧DenL F w cells vals
 | .at_ cells,v=>∃b o vals,v=.pointer (some ⟨b,o,none⟩)∧Mem F w (some ⟨b,o,none⟩) vals∧DenL F w cells vals
 | .agg cells,v=>∃vals:List Value,v=.agg vals.toArray∧DenL F w cells vals
 | .tup l,v=>∃vals:List Value,v=.tuple vals.toArray∧DenL F w l vals
 | .ifc t av,v=>∃u,v=.iface t u∧Den F w av u
 | .g p av,v=>(p=true→Den F w av v)∧(p=false→v=undef)
def DenL (F:Nat→Prop) (w:World):List AV→List Value→Prop
 | [],vs=>vs=[]
 | c :: cs,vs=>∃u us,vs=u :: us∧Den F w c u∧DenL F w cs us
end
section
variable {F F':Nat→Prop} {w w':World}
theorem DenL.len {l:List AV}:∀{vs:List Value},DenL F w l vs→vs.length=l.length:=by
 induction l with
 | nil=>intro vs h;rw [DenL] at h;subst h;rfl
 | cons c cs ih=>intro vs h;rw [DenL] at h;obtain ⟨u,us,rfl,_,h2⟩:=h;simp [ih h2]
theorem DenL.get {l:List AV}:∀{vs:List Value},DenL F w l vs→∀(j:Nat) (av:AV),l[j]?=some av→∃u,vs[j]?=some u∧Den F w av u:=by
 induction l with
 | nil=>intro vs h j av hj;simp at hj
 | cons c cs ih=>
   intro vs h j av hj
   rw [DenL] at h;obtain ⟨u,us,rfl,h1,h2⟩:=h
   cases j with
   | zero=>simp at hj;subst hj;exact ⟨u,rfl,h1⟩
   | succ j=>exact ih h2 j av (by simpa using hj)
theorem DenL.of {l:List AV}:∀{vs:List Value},vs.length=l.length→(∀(j:Nat) (av:AV) (u:Value),l[j]?=some av→vs[j]?=some u→Den F w av u)→DenL F w l vs:=by
 induction l with
 | nil=>intro vs h _;rw [DenL];exact List.eq_nil_of_length_eq_zero h
 | cons c cs ih=>
   intro vs h hj
   cases vs with
   | nil=>simp at h
   | cons u us=>rw [DenL];exact ⟨u,us,rfl,hj 0 c u rfl rfl,ih (by simpa using h) fun j av v h1 h2=>hj (j+1) av v (by simpa using h1) (by simpa using h2)⟩
theorem DenL.get' {l:List AV} {vs:List Value} (h:DenL F w l vs) (j:Nat) (av:AV) (u:Value) (h1:l[j]?=some av) (h2:vs[j]?=some u):Den F w av u:=by
 obtain ⟨u',e,hd⟩:=h.get j av h1
 rw [h2] at e;cases e;exact hd
theorem DenL.app {l m:List AV} {vs us:List Value} (h:DenL F w l vs) (k:DenL F w m us):DenL F w (l++m) (vs++us):=by
 refine DenL.of (by simp [h.len,k.len]) fun j av u h1 h2=>?_
 by_cases hj:j < l.length
 ·rw [List.getElem?_append_left hj] at h1
  rw [List.getElem?_append_left (by rw [h.len];exact hj)] at h2
  exact h.get' j av u h1 h2
 ·rw [List.getElem?_append_right (by omega)] at h1
  rw [List.getElem?_append_right (by rw [h.len];omega),h.len] at h2
  exact k.get' _ av u h1 h2
theorem DenL.set {l:List AV} {vs:List Value} (h:DenL F w l vs) (d:Nat) {av:AV} {v:Value} (hd:Den F w av v):DenL F w (l.set d av) (vs.set d v):=by
 refine DenL.of (by simp [h.len]) fun j a u h1 h2=>?_
 rw [List.getElem?_set] at h1 h2
 split at h1
 ·rename_i e;subst e
  have hl:d < l.length:=by split at h1<;>simp_all
  simp [hl] at h1;subst h1
  simp [h.len,hl] at h2;subst h2;exact hd
 ·rename_i e;simp [e] at h2;exact h.get' j a u h1 h2
theorem DenL.drop {l:List AV} {vs:List Value} (h:DenL F w l vs) (k:Nat):DenL F w (l.drop k) (vs.drop k):=by
 refine DenL.of (by simp [h.len]) fun j a u h1 h2=>?_
 rw [List.getElem?_drop] at h1 h2;exact h.get' _ a u h1 h2
theorem DenL.take {l:List AV} {vs:List Value} (h:DenL F w l vs) (k:Nat):DenL F w (l.take k) (vs.take k):=by
 refine DenL.of (by simp [h.len]) fun j a u h1 h2=>?_
 rw [List.getElem?_take] at h1 h2
 split at h1
 ·rename_i e;rw [if_pos e] at h2;exact h.get' _ a u h1 h2
 ·cases h1
theorem DenL.exact {l:List Value}:DenL F w (l.map AV.x) l:=DenL.of (by simp) fun j av u h1 h2=>by
 rw [List.getElem?_map,h2] at h1;cases h1;rw [Den]
theorem DenL.exact' {l vs:List Value} (h:DenL F w (l.map AV.x) vs):vs=l:=by
 apply List.ext_getElem?
 intro j
 by_cases hj:j < l.length
 ·obtain ⟨u,hu,hd⟩:=h.get j (.x l[j]) (by simp [hj])
  rw [Den] at hd;subst hd;rw [hu];simp [hj]
 ·rw [List.getElem?_eq_none (by rw [h.len];simpa using hj),List.getElem?_eq_none (by omega)]
theorem Mem.conv {ad:Option Addr} {vals:List Value} (h:Mem F w ad vals) (hF:∀k,F' k→F k∨w.heap.size≤k) (hw:∀k,k < w.heap.size→¬F k→w'.heap[k]?=w.heap[k]?):Mem F' w' ad vals:=by
 rcases h with h|⟨b,o,rfl,hb,hc⟩
 ·exact .inl h
 ·cases vals with
  | nil=>exact .inl rfl
  | cons v vs=>
    have hlt:b < w.heap.size:=World.block_lt_of_cell? w _ (hc 0 v rfl).1
    refine .inr ⟨b,o,rfl,fun hk=>?_,fun j u hj=>⟨?_,(hc j u hj).2⟩⟩
    ·rcases hF b hk with h|h
     ·exact hb h
     ·omega
    ·rw [World.cell?_of_block (a:=⟨b,o+j,none⟩) (hw b hlt hb)];exact (hc j u hj).1
mutual
theorem Den.conv (hF:∀k,F' k→F k∨w.heap.size≤k) (hw:∀k,k < w.heap.size→¬F k→w'.heap[k]?=w.heap[k]?):(av:AV)→∀v,Den F w av v→Den F' w' av v
 | .x u,v,h=>by rw [Den] at h ⊢;exact h
 | .top,v,h=>by rw [Den];trivial
 | .sq n cells,v,h=>by
   rw [Den] at h ⊢
   obtain ⟨ad,cap,vals,h1,h2,h3,h4,h5,h6⟩:=h
   exact ⟨ad,cap,vals,h1,h2,h3,h4,h5.conv hF hw,DenL.conv hF hw cells vals h6⟩
 | .at_ cells,v,h=>by
   rw [Den] at h ⊢
   obtain ⟨b,o,vals,h1,h5,h6⟩:=h
   exact ⟨b,o,vals,h1,h5.conv hF hw,DenL.conv hF hw cells vals h6⟩
 | .agg cells,v,h=>by
   rw [Den] at h ⊢
   obtain ⟨vals,h1,h6⟩:=h
   exact ⟨vals,h1,DenL.conv hF hw cells vals h6⟩
 | .tup cells,v,h=>by
   rw [Den] at h ⊢
   obtain ⟨vals,h1,h6⟩:=h
   exact ⟨vals,h1,DenL.conv hF hw cells vals h6⟩
 | .ifc t av,v,h=>by
   rw [Den] at h ⊢
   obtain ⟨u,h1,h6⟩:=h
   exact ⟨u,h1,Den.conv hF hw av u h6⟩
 | .g p av,v,h=>by
   rw [Den] at h ⊢
   exact ⟨fun hp=>Den.conv hF hw av v (h.1 hp),h.2⟩
theorem DenL.conv (hF:∀k,F' k→F k∨w.heap.size≤k) (hw:∀k,k < w.heap.size→¬F k→w'.heap[k]?=w.heap[k]?):(l:List AV)→∀vs,DenL F w l vs→DenL F' w' l vs
 | [],vs,h=>by rw [DenL] at h ⊢;exact h
 | c :: cs,vs,h=>by
   rw [DenL] at h ⊢
   obtain ⟨u,us,e,h1,h2⟩:=h
   exact ⟨u,us,e,Den.conv hF hw c u h1,DenL.conv hF hw cs us h2⟩
end
theorem Den.weak (hF:∀k,F' k→F k) {av:AV} {v:Value} (h:Den F w av v):Den F' w av v:=Den.conv (fun k hk=>.inl (hF k hk)) (fun _ _ _=>rfl) av v h
theorem DenL.weak (hF:∀k,F' k→F k) {l:List AV} {vs:List Value} (h:DenL F w l vs):DenL F' w l vs:=DenL.conv (fun k hk=>.inl (hF k hk)) (fun _ _ _=>rfl) l vs h
end
theorem Gw.ext {w w':World} (h:Gw w) (hE:Ext w w'):Gw w':=h.keep fun k hk=>hE.block k (Nat.lt_of_lt_of_le hk h.le)
/-! ### The blocks that the call owns -/
inductive Hp where
 | box (b:Nat) (cells:List AV)
 | row (ad:Option Addr) (n cap:Nat) (e:TypeId) (size:Nat) (cells:List AV)
 | map (b:Nat) (l:List (Value × Value))
 | sen (ad:Nat→Addr)
def Hp.blk:Hp→Option Nat
 | .box b _=>some b
 | .row ad ..=>ad.map (·.block)
 | .map b _=>some b
 | .sen _=>none
def XgS (F:Nat→Prop) (w:World):Hp→Prop
 | .box b cells=>∃vals,DenL F w cells vals∧b < w.heap.size∧∀j u,vals[j]?=some u→w.cell? ⟨b,j,none⟩=some u∧u.oneCell'=true∧w.frozen? ⟨b,j,none⟩=false
 | .row ad n cap e size cells=>∃vals,DenL F w cells vals∧w.ownsRow 0 e size (.slice ad n cap) n vals∧∀u∈vals,u.oneCell'=true
 | .map b l=>∃es clock,w.heap[b]?=some (.map es clock)∧es.toList.map (fun x=>(x.key,x.val))=l
 | .sen ad=>XgV ad w∧∀k,XxF ad k→¬F k
def FB (V:Nat→Prop) (H:List Hp):Nat→Prop:=fun k=>V k∨∃h∈H,h.blk=some k
def XsP (a b:Hp):Prop:=∀k,a.blk=some k→b.blk≠some k
structure HOk (V:Nat→Prop) (w:World) (H:List Hp):Prop where
 ok:∀h∈H,XgS (FB V H) w h
 apart:H.Pairwise XsP
 lt:∀h∈H,∀k,h.blk=some k→k < w.heap.size∧¬V k
structure Fr (O:Nat→Prop) (w0 w:World):Prop where
 os:w.os=w0.os
 tape:w.tape=w0.tape
 output:w.output=w0.output
 size:w0.heap.size≤w.heap.size
 block:∀k,k < w0.heap.size→¬O k→w.heap[k]?=w0.heap[k]?
theorem Fr.refl (O:Nat→Prop) (w:World):Fr O w w:=⟨rfl,rfl,rfl,Nat.le_refl _,fun _ _ _=>rfl⟩
theorem Fr.trans {O:Nat→Prop} {O':Nat→Prop} {a b c:World} (h:Fr O a b) (k:Fr O' b c) (ho:∀i,i < a.heap.size→O' i→O i):Fr O a c:=
 ⟨k.os.trans h.os,k.tape.trans h.tape,k.output.trans h.output,Nat.le_trans h.size k.size,fun i hi hn=>(k.block i (Nat.lt_of_lt_of_le hi h.size) (fun h'=>hn (ho i hi h'))).trans (h.block i hi hn)⟩
theorem Fr.ext {a b:World} (h:Fr (fun _=>False) a b):Ext a b:=⟨h.os,h.tape,h.output,h.size,fun k hk=>h.block k hk (fun x=>x)⟩
theorem Ext.fr {a b:World} (h:Ext a b) (O:Nat→Prop):Fr O a b:=⟨h.os,h.tape,h.output,h.size,fun k hk _=>h.block k hk⟩
def Xch (H:List Hp):Nat→Prop:=fun k=>∃h∈H,h.blk=some k
structure Rel (Δ:List Deferred) (V O:Nat→Prop) (w0:World) (H:List Hp) (T:List AV) (a:Act) (w:World):Prop where
 tmps:DenL (FB V H) w T a.tmps.toList
 hok:HOk V w H
 fr:Fr O w0 w
 own:∀h∈H,∀k,h.blk=some k→O k∨w0.heap.size≤k
 defers:a.defers=Δ
 vlt:∀k,V k→k < w0.heap.size
 gl:GL O w0
section
variable {Δ:List Deferred} {V O:Nat→Prop} {w0 w w':World} {H H':List Hp} {T:List AV} {a:Act}
theorem FB.perm (h:H.Perm H'):∀k,FB V H' k→FB V H k:=fun k hk=>hk.imp id fun ⟨x,hx,e⟩=>⟨x,h.mem_iff.2 hx,e⟩
theorem XgS.weak {F F':Nat→Prop} (hF:∀k,F' k→F k):∀{h:Hp},XgS F w h→XgS F' w h
 | .box ..,⟨vals,h1,h2⟩=>⟨vals,h1.weak hF,h2⟩
 | .row ..,⟨vals,h1,h2⟩=>⟨vals,h1.weak hF,h2⟩
 | .map ..,h=>h
 | .sen _,⟨h1,h2⟩=>⟨h1,fun k hk hf=>h2 k hk (hF k hf)⟩
theorem XgS.conv {F F':Nat→Prop} (hF:∀k,F' k→F k∨w.heap.size≤k) (hw:∀k,k < w.heap.size→¬F k→w'.heap[k]?=w.heap[k]?) (hs:w.heap.size≤w'.heap.size) :
  ∀{h:Hp},XgS F w h→(∀k,h.blk=some k→w'.heap[k]?=w.heap[k]?)→XgS F' w' h
 | .box b cells,⟨vals,h1,hl,h2⟩,hb=>⟨vals,DenL.conv hF hw _ _ h1,by omega,fun j u hj=>by
   have:=hb b rfl
   rw [World.cell?_of_block (a:=⟨b,j,none⟩) this,World.frozen?_of_block (a:=⟨b,j,none⟩) this];exact h2 j u hj⟩
 | .row ad n cap e size cells,⟨vals,h1,h2,h3⟩,hb=>by
   refine ⟨vals,DenL.conv hF hw _ _ h1,?_,h3⟩
   obtain ⟨hl,hn|⟨g,cap',cur,e',hbg,hg,r⟩⟩:=h2
   ·exact ⟨hl,.inl hn⟩
   ·refine ⟨hl,.inr ⟨g,cap',cur,e',hbg,?_,r⟩⟩
    have:ad=some ⟨g,0,none⟩:=by injection e'
    rw [hb g (by rw [this];rfl)];exact hg
 | .map b l,⟨es,clock,h1,h2⟩,hb=>⟨es,clock,by rw [hb b rfl];exact h1,h2⟩
 | .sen ad,⟨h1,h2⟩,_=>⟨h1.keep fun k hk=>hw k (h1.lt k hk) (h2 k hk),fun k hk hf=>by
   rcases hF k hf with hf|hf
   ·exact h2 k hk hf
   ·have:=h1.lt k hk;omega⟩
theorem Rel.perm (h:Rel Δ V O w0 H T a w) (hp:H.Perm H'):Rel Δ V O w0 H' T a w where
 tmps:=h.tmps.weak (FB.perm hp)
 hok:=⟨fun x hx=>(h.hok.ok x (hp.mem_iff.2 hx)).weak (FB.perm hp),hp.pairwise h.hok.apart (fun {a b} hab k hb ha=>hab k ha hb),fun x hx=>h.hok.lt x (hp.mem_iff.2 hx)⟩
 fr:=h.fr
 own:=fun x hx=>h.own x (hp.mem_iff.2 hx)
 defers:=h.defers
 vlt:=h.vlt
 gl:=h.gl
theorem Rel.gw (h:Rel Δ V O w0 H T a w):Gw w:=h.gl.2.keep fun k hk=>h.fr.block k (Nat.lt_of_lt_of_le hk h.gl.2.le) (h.gl.1 k hk)
theorem Rel.gb (h:Rel Δ V O w0 H T a w):GL (Xch H) w:=⟨fun k hk ⟨y,hy,e⟩=>by
 rcases h.own y hy k e with h1|h1
 ·exact h.gl.1 k hk h1
 ·have:=h.gl.2.le;omega,h.gw⟩
theorem Rel.quiet (h:Rel Δ V O w0 H T a w) (hb:Ext w w'):Rel Δ V O w0 H T a w' where
 tmps:=DenL.conv (fun k hk=>.inl hk) (fun k hk _=>hb.block k hk) _ _ h.tmps
 hok:=⟨fun x hx=>(h.hok.ok x hx).conv (fun k hk=>.inl hk) (fun k hk _=>hb.block k hk) hb.size (fun k hk=>hb.block k (h.hok.lt x hx k hk).1),h.hok.apart,
  fun x hx k hk=>⟨Nat.lt_of_lt_of_le (h.hok.lt x hx k hk).1 hb.size,(h.hok.lt x hx k hk).2⟩⟩
 fr:=h.fr.trans (hb.fr (fun _=>False)) (fun _ _ h=>h.elim)
 own:=h.own
 defers:=h.defers
 vlt:=h.vlt
 gl:=h.gl
def Xa9 (T:List AV) (d:Option Tmp) (av:AV):List AV:=match d with|some d=>T.set d av|none=>T
theorem Rel.put (h:Rel Δ V O w0 H T a w) (d:Option Tmp) {av:AV} {v:Value} (hd:Den (FB V H) w av v):Rel Δ V O w0 H (Xa9 T d av) (a.put d v) w where
 tmps:=by
  cases d with
  | none=>exact h.tmps
  | some d=>simp only [Xa9,Act.put,Array.toList_setIfInBounds];exact h.tmps.set d hd
 hok:=h.hok
 fr:=h.fr
 own:=h.own
 defers:=by cases d<;>exact h.defers
 vlt:=h.vlt
 gl:=h.gl
theorem Rel.new (h:Rel Δ V O w0 H T a w) (hb:Ext w w') (x:Hp) (hx:∀k,x.blk=some k→w.heap.size≤k∧k < w'.heap.size) (hok:XgS (FB V (x :: H)) w' x):Rel Δ V O w0 (x :: H) T a w' where
 tmps:=DenL.conv (fun k hk=>by
  rcases hk with hk|⟨y,hy,e⟩
  ·exact .inl (.inl hk)
  ·rcases List.mem_cons.1 hy with rfl|hy
   ·exact .inr (hx k e).1
   ·exact .inl (.inr ⟨y,hy,e⟩)) (fun k hk _=>hb.block k hk) _ _ h.tmps
 hok:=by
  refine ⟨fun y hy=>?_,List.pairwise_cons.2 ⟨fun y hy k hk e=>?_,h.hok.apart⟩,fun y hy k hk=>?_⟩
  ·rcases List.mem_cons.1 hy with rfl|hy
   ·exact hok
   ·exact (h.hok.ok y hy).conv (fun k hk=>by
     rcases hk with hk|⟨z,hz,e⟩
     ·exact .inl (.inl hk)
     ·rcases List.mem_cons.1 hz with rfl|hz
      ·exact .inr (hx k e).1
      ·exact .inl (.inr ⟨z,hz,e⟩)) (fun k hk _=>hb.block k hk) hb.size (fun k hk=>hb.block k (h.hok.lt y hy k hk).1)
  ·have h1:=(hx k hk).1
   have h2:=(h.hok.lt y hy k e).1
   omega
  ·rcases List.mem_cons.1 hy with rfl|hy
   ·exact ⟨(hx k hk).2,fun hv=>by have h1:=h.vlt k hv;have h2:=h.fr.size;have:=(hx k hk).1;omega⟩
   ·exact ⟨Nat.lt_of_lt_of_le (h.hok.lt y hy k hk).1 hb.size,(h.hok.lt y hy k hk).2⟩
 fr:=h.fr.trans (hb.fr (fun _=>False)) (fun _ _ h=>h.elim)
 own:=fun y hy k hk=>by
  rcases List.mem_cons.1 hy with rfl|hy
  ·exact .inr (Nat.le_trans h.fr.size (hx k hk).1)
  ·exact h.own y hy k hk
 defers:=h.defers
 vlt:=h.vlt
 gl:=h.gl
theorem Rel.turn {x y:Hp} (h:Rel Δ V O w0 (x :: H) T a w) (hos:w'.os=w.os) (htp:w'.tape=w.tape) (hout:w'.output=w.output) (hs:w.heap.size≤w'.heap.size)
  (hw:∀k,k < w.heap.size→x.blk≠some k→w'.heap[k]?=w.heap[k]?) (hxy:∀k,y.blk=some k→k < w'.heap.size∧(x.blk=some k∨w.heap.size≤k))
  (hok:XgS (FB V (y :: H)) w' y) (hdrop:∀k,x.blk=some k→¬(y.blk=some k)→True):Rel Δ V O w0 (y :: H) T a w':=by
 have hF:∀k,FB V (y :: H) k→FB V (x :: H) k∨w.heap.size≤k:=fun k hk=>by
  rcases hk with hk|⟨z,hz,e⟩
  ·exact .inl (.inl hk)
  ·rcases List.mem_cons.1 hz with rfl|hz
   ·rcases (hxy k e).2 with h1|h1
    ·exact .inl (.inr ⟨x,by simp,h1⟩)
    ·exact .inr h1
   ·exact .inl (.inr ⟨z,by simp [hz],e⟩)
 have hw':∀k,k < w.heap.size→¬FB V (x :: H) k→w'.heap[k]?=w.heap[k]?:=fun k hk hn=>hw k hk fun e=>hn (.inr ⟨x,by simp,e⟩)
 have hap:=List.pairwise_cons.1 h.hok.apart
 refine ⟨DenL.conv hF hw' _ _ h.tmps,⟨fun z hz=>?_,List.pairwise_cons.2 ⟨fun z hz k hk e=>?_,hap.2⟩,fun z hz k hk=>?_⟩,?_,fun z hz k hk=>?_,h.defers,h.vlt,h.gl⟩
 ·rcases List.mem_cons.1 hz with rfl|hz
  ·exact hok
  ·exact (h.hok.ok z (by simp [hz])).conv hF hw' hs fun k hk=>hw k (h.hok.lt z (by simp [hz]) k hk).1 fun e=>hap.1 z hz k e hk
 ·rcases (hxy k hk).2 with h1|h1
  ·exact hap.1 z hz k h1 e
  ·have:=(h.hok.lt z (by simp [hz]) k e).1;omega
 ·rcases List.mem_cons.1 hz with rfl|hz
  ·refine ⟨(hxy k hk).1,fun hv=>?_⟩
   rcases (hxy k hk).2 with h1|h1
   ·exact (h.hok.lt x (by simp) k h1).2 hv
   ·have h2:=h.vlt k hv;have h3:=h.fr.size;omega
  ·exact ⟨Nat.lt_of_lt_of_le (h.hok.lt z (by simp [hz]) k hk).1 hs,(h.hok.lt z (by simp [hz]) k hk).2⟩
 ·refine h.fr.trans (O':=fun k=>x.blk=some k) ⟨hos,htp,hout,hs,fun k hk hn=>hw k hk hn⟩ fun k hk e=>?_
  rcases h.own x (by simp) k e with h1|h1
  ·exact h1
  ·omega
 ·rcases List.mem_cons.1 hz with rfl|hz
  ·rcases (hxy k hk).2 with h1|h1
   ·exact h.own x (by simp) k h1
   ·exact .inr (Nat.le_trans h.fr.size h1)
  ·exact h.own z (by simp [hz]) k hk
end
open Go.RowKit
def str:AV→AV
 | .g true v=>v
 | v=>v
def ev (T:List AV):Operand→AV
 | .tmp t=>T.getD t .top
 | .const v=>.x v
 | .global g=>.x (.pointer (some ⟨g,0,none⟩))
 | .func f=>.x (.func (.func f) #[] #[])
def AV.val:AV→Value|.x v=>v|_=>undef
def AV.ex:AV→Bool|.x _=>true|_=>false
section
variable {P:Program} {Δ:List Deferred} {V O:Nat→Prop} {w0 w w':World} {H H':List Hp} {T:List AV} {a:Act}
theorem Den.str {F:Nat→Prop} {av:AV} {v:Value} (h:Den F w av v):Den F w (str av) v:=by
 unfold Go.Proofs.YtdlblokjfoggpaaGreatDoor.str
 split
 ·rw [Den] at h;exact h.1 rfl
 ·exact h
theorem Rel.ev (h:Rel Δ V O w0 H T a w) (o:Operand):Den (FB V H) w (ev T o) (a.eval o):=by
 cases o with
 | tmp t=>
   simp only [Go.Proofs.YtdlblokjfoggpaaGreatDoor.ev,Act.eval]
   by_cases ht:t < T.length
   ·obtain ⟨u,hu,hd⟩:=h.tmps.get t T[t] (by simp [ht])
    rw [Array.getElem?_toList] at hu
    simp [hu,List.getD,ht];exact hd
   ·simp [List.getD,List.getElem?_eq_none (Nat.le_of_not_lt ht)];rw [Den];trivial
 | const v=>simp [Go.Proofs.YtdlblokjfoggpaaGreatDoor.ev,Act.eval,Den]
 | global g=>simp [Go.Proofs.YtdlblokjfoggpaaGreatDoor.ev,Act.eval,Den]
 | func f=>simp [Go.Proofs.YtdlblokjfoggpaaGreatDoor.ev,Act.eval,Den]
theorem Rel.evx (h:Rel Δ V O w0 H T a w) {o:Operand} {v:Value} (he:Go.Proofs.YtdlblokjfoggpaaGreatDoor.ev T o=.x v):a.eval o=v:=by
 have:=h.ev o
 rw [he,Den] at this;exact this
/-! ### Code -/
abbrev Xb9:=Exit→List AV→List Hp→Prop
def Xe9 (Δ:List Deferred) (V O:Nat→Prop) (w0:World) (Q:Xb9):Exit→Act→World→Prop:=fun e a w=>∃T H,Rel Δ V O w0 H T a w∧Q e T H
def awp (P:Program) (c:Code) (Q:Xb9) (T:List AV) (H:List Hp):Prop:=
 ∀Δ V O w0 a w,Rel Δ V O w0 H T a w→c.wp P (Xe9 Δ V O w0 Q) a w
def Xe8 (P:Program) (ops:Array Oper) (Q:Xb9) (rest:List Oper) (T:List AV) (H:List Hp):Prop:=
 ∀Δ V O w0 a w,Rel Δ V O w0 H T a w→wpList P ops (Xe9 Δ V O w0 Q) rest a w
def XbH (K:List AV→List Hp→Prop) (Q:Xb9):Xb9
 | .normal,T,H=>K T H
 | e,T,H=>Q e T H
def XaA (id:Nat) (Q:Xb9):Xb9
 | .exit id',T,H=>if id'=id then Q .normal T H else Q (.exit id') T H
 | e,T,H=>Q e T H
theorem XkO {c:Code} {Q Q':Xb9} (h:awp P c Q T H) (hq:∀e T H,Q e T H→Q' e T H):awp P c Q' T H:=
 fun Δ V O w0 a w r=>wp_mono (h Δ V O w0 a w r) fun e a w ⟨T,H,r,q⟩=>⟨T,H,r,hq _ _ _ q⟩
theorem Xa4 {Q:Xb9} (h:Q .normal T H):awp P .skip Q T H:=fun Δ V O w0 a w r=>wp_skip ⟨T,H,r,h⟩
theorem XdV {Q:Xb9} {id:Nat} (h:Q (.exit id) T H):awp P (.exit id) Q T H:=fun Δ V O w0 a w r=>wp_exit ⟨T,H,r,h⟩
theorem Xbj {Q:Xb9} (h:Q .ret T H):awp P .ret Q T H:=fun Δ V O w0 a w r=>wp_ret ⟨T,H,r,h⟩
theorem XaH {x y:Code} {Q:Xb9} (h:awp P x (XbH (awp P y Q) Q) T H):awp P (.seq x y) Q T H:=fun Δ V O w0 a w r=>
 wp_seq (wp_mono (h Δ V O w0 a w r) fun e a w ⟨T,H,r,q⟩=>by
  cases e with
  | normal=>exact q Δ V O w0 a w r
  | _=>exact ⟨T,H,r,q⟩)
theorem XaR {c:Operand} {x y:Code} {Q:Xb9} (b:Bool) (hc:Go.Proofs.YtdlblokjfoggpaaGreatDoor.ev T c=.x (.bool b)) (h1:b=true→awp P x Q T H) (h2:b=false→awp P y Q T H):awp P (.cond c x y) Q T H:=
 fun Δ V O w0 a w r=>wp_cond_split (r.evx hc) (fun hb=>h1 hb Δ V O w0 a w r) (fun hb=>h2 hb Δ V O w0 a w r)
theorem Xbp {id:Nat} {c:Code} {Q:Xb9} (h:awp P c (XaA id Q) T H):awp P (.block id c) Q T H:=fun Δ V O w0 a w r=>
 wp_block (wp_mono (h Δ V O w0 a w r) fun e a w ⟨T,H,r,q⟩=>by
  cases e with
  | exit id'=>
    simp only [XaA] at q
    simp only [Exit.inBlock]
    split
    ·rename_i he;rw [if_pos he] at q;exact ⟨T,H,r,q⟩
    ·rename_i he;rw [if_neg he] at q;exact ⟨T,H,r,q⟩
  | _=>exact ⟨T,H,r,q⟩)
theorem Xal {id:Nat} {l:List Oper} {Q:Xb9} (h:Xe8 P l.toArray Q l T H):awp P (.region id l.toArray false) Q T H:=
 fun Δ V O w0 a w r=>wp_region_lit (h Δ V O w0 a w r)
theorem Xgc {id:Nat} {ops:Array Oper} {Q:Xb9} (hm:P.follows .mixedOrders=true)
  (h:∀Δ V O w0 a w,Rel Δ V O w0 H T a w→wpAny P .any ops (Xe9 Δ V O w0 Q) ops.size (Array.replicate ops.size false) a w):awp P (.region id ops true) Q T H:=
 fun Δ V O w0 a w r=>wp_region_any hm (h Δ V O w0 a w.drew (r.quiet ((Below.refl _ _).drew)))
/-! ### Operations -/
def Stp (P:Program) (o:Oper) (T:List AV) (H:List Hp) (K:List AV→List Hp→Prop):Prop:=
 ∀(Δ:List Deferred) (V O:Nat→Prop) (w0:World) (a:Act) (w:World) (Kc:Act→World→Prop) (Q:Exit→Act→World→Prop),Rel Δ V O w0 H T a w →
  (∀T' H' a' w',K T' H'→Rel Δ V O w0 H' T' a' w'→Kc a' w')→o.wp P a w Kc Q
variable {ops:Array Oper} {rest:List Oper} {o:Oper} {Q:Xb9} {K:List AV→List Hp→Prop}
theorem Xat (h:Q .normal T H):Xe8 P ops Q [] T H:=fun Δ V O w0 a w r=>wpList_nil ⟨T,H,r,h⟩
theorem Xab (hg:o.guard=none) (h:Stp P o T H (Xe8 P ops Q rest)):Xe8 P ops Q (o :: rest) T H:=fun Δ V O w0 a w r=>
 wpList_plain hg fun K hK=>h Δ V O w0 a w K _ r fun T' H' a' w' hk hr=>hK _ _ (hk Δ V O w0 a' w' hr)
def gdc (want:Bool):AV→Option Bool
 | .x (.bool b)=>match want with|true=>some b|false=>some (!b)
 | .g p (.x (.bool b))=>match want with|true=>some (p && b)|false=>some (p && !b)
 | _=>none
theorem XdR {j t:Nat} {want p:Bool} (r:Rel Δ V O w0 H T a w) (hg:o.guard=some (j,want)) (hd:(ops[j]?).bind (·.dst)=some t) (hp:gdc want (T.getD t .top)=some p):Region.wanted o (yielded ops a.tmps)=p:=by
 have hden:Den (FB V H) w (T.getD t .top) (a.tmps.getD t undef):=by
  by_cases ht:t < T.length
  ·obtain ⟨u,hu,hd⟩:=r.tmps.get t T[t] (by simp [ht])
   rw [Array.getElem?_toList] at hu
   simp [hu,List.getD,ht];exact hd
  ·simp [List.getD,List.getElem?_eq_none (Nat.le_of_not_lt ht),gdc] at hp
 have hsome:∀u,a.tmps.getD t undef=u→u≠undef→a.tmps[t]?=some u:=by
  intro u hu hne
  cases hv:a.tmps[t]? with
  | none=>simp [hv] at hu;exact absurd hu.symm hne
  | some x=>simp [hv] at hu;rw [hu]
 unfold Region.wanted
 rw [hg]
 simp only [yielded,hd]
 cases hav:T.getD t .top with
 | x v=>
   rw [hav] at hp hden
   rw [Den] at hden
   cases v<;>(try (simp [gdc] at hp;done))
   rename_i b
   have:=hsome _ hden (by simp [undef])
   simp [this]
   cases b<;>cases want<;>simp [gdc] at hp<;>subst hp<;>rfl
 | g q v=>
   rw [hav] at hp hden
   cases v<;>(try (simp [gdc] at hp;done))
   rename_i v
   cases v<;>(try (simp [gdc] at hp;done))
   rename_i b
   rw [Den] at hden
   cases q with
   | true=>
     have hb:=hden.1 rfl
     rw [Den] at hb
     have:=hsome _ hb (by simp [undef])
     simp [this]
     cases b<;>cases want<;>simp [gdc] at hp<;>subst hp<;>rfl
   | false=>
     have hb:=hden.2 rfl
     have hpf:p=false:=by cases want<;>simp [gdc] at hp<;>(first|exact hp|fail)
     subst hpf
     cases hv:a.tmps[t]? with
     | none=>simp [hv]
     | some x=>
       simp [hv] at hb
       subst hb
       simp [undef,hv]
 | _=>rw [hav] at hp;simp [gdc] at hp
structure OK (V:Nat→Prop) (H:List Hp) (ρ:Operand→AV) (o:Oper) (a:Act) (w:World):Prop where
 hok:HOk V w H
 ops:∀x∈o.op.operands,Den (FB V H) w (ρ x) (a.eval x)
 vlt:∀k,V k→k < w.heap.size
 gw:Gw w
theorem OK.evx {ρ:Operand→AV} (h:OK V H ρ o a w) {x:Operand} {v:Value} (hm:x∈o.op.operands) (he:ρ x=.x v):a.eval x=v:=by
 have:=h.ops x hm
 rw [he,Den] at this;exact this
theorem OK.hp {ρ:Operand→AV} (h:OK V H ρ o a w) (i:Nat) (x:Hp) (hi:H[i]?=some x):XgS (FB V H) w x:=h.hok.ok x (List.mem_of_getElem? hi)
theorem Rel.oks (h:Rel Δ V O w0 H T a w) (o:Oper):OK V H (Go.Proofs.YtdlblokjfoggpaaGreatDoor.ev T) o a w:=⟨h.hok,fun x _=>h.ev x,fun k hk=>Nat.lt_of_lt_of_le (h.vlt k hk) h.fr.size,h.gw⟩
def evs (T:List AV):Operand→AV:=fun x=>str (Go.Proofs.YtdlblokjfoggpaaGreatDoor.ev T x)
theorem OK.strip {ρ:Operand→AV} (h:OK V H ρ o a w):OK V H (fun x=>str (ρ x)) o a w:=⟨h.hok,fun x hx=>(h.ops x hx).str,h.vlt,h.gw⟩
theorem Rel.oks' (h:Rel Δ V O w0 H T a w) (o:Oper):OK V H (evs T) o a w:=(h.oks o).strip
def Evl (P:Program) (o:Oper) (ρ:Operand→AV) (H:List Hp) (av:AV):Prop:=
 ∀(V:Nat→Prop) (a:Act) (w:World) (Kc:Act→World→Prop) (Q:Exit→Act→World→Prop),OK V H ρ o a w →
  (∀v w',Ext w w'→Den (FB V H) w' av v→Kc (a.put o.dst v) w')→o.wp P a w Kc Q
theorem Xp9 (hg:o.guard=none) (av:AV) (h:Evl P o (Go.Proofs.YtdlblokjfoggpaaGreatDoor.ev T) H av) (hK:Xe8 P ops Q rest (Xa9 T o.dst av) H):Xe8 P ops Q (o :: rest) T H:=fun Δ V O w0 a w r=>
 wpList_plain hg fun K hKc=>h V a w K _ (r.oks o) fun v w' he hd=>hKc _ _ (hK Δ V O w0 _ _ ((r.quiet he).put _ hd))
theorem Xvc {j:Nat} {want:Bool} {t:Nat} (p:Bool) (av:AV) (hg:o.guard=some (j,want)) (hd:(ops[j]?).bind (·.dst)=some t) (hp:gdc want (T.getD t .top)=some p)
  (h:p=true→Evl P o (evs T) H av) (hK:Xe8 P ops Q rest (Xa9 T o.dst (.g p av)) H):Xe8 P ops Q (o :: rest) T H:=fun Δ V O w0 a w r=>
 wpList_step fun K hKc=>by
  rw [XdR r hg hd hp]
  cases hpb:p with
  | true=>
    simp only [if_true]
    subst hpb
    exact h rfl V a w K _ (r.oks' o) fun v w' he hd=>hKc _ _ (hK Δ V O w0 _ _ ((r.quiet he).put _ (by rw [Den];exact ⟨fun _=>hd,fun h=>by cases h⟩)))
  | false=>
    simp only [Bool.false_eq_true,if_false]
    subst hpb
    exact hKc _ _ (hK Δ V O w0 _ _ (r.put _ (by rw [Den];exact ⟨fun h=>(by cases h),fun _=>rfl⟩)))
theorem Stp.mono {K':List AV→List Hp→Prop} (h:Stp P o T H K) (hk:∀T H,K T H→K' T H):Stp P o T H K':=
 fun Δ V O w0 a w Kc Q r hK=>h Δ V O w0 a w Kc Q r fun T' H' a' w' k r'=>hK T' H' a' w' (hk _ _ k) r'
theorem Xbi (av:AV) (h:Evl P o (Go.Proofs.YtdlblokjfoggpaaGreatDoor.ev T) H av) (hK:K (Xa9 T o.dst av) H):Stp P o T H K:=fun Δ V O w0 a w Kc Q r hKc=>
 h V a w Kc Q (r.oks o) fun v w' he hd=>hKc _ _ _ _ hK ((r.quiet he).put _ hd)
variable {ρ:Operand→AV}
theorem XbI (v:Value) (hs:∀cs b,o.op≠.select cs b) (hx:(o.op.operands.toList.all fun x=>(ρ x).ex)=true)
  (hrun:∀w,(execOp (fun x=>(ρ x).val) o).run P w=.ok (.value v) w):Evl P o ρ H (.x v):=by
 intro V a w Kc Q r hKc
 have he:execOp a.eval o=execOp (fun x=>(ρ x).val) o:=execOp_congr o hs fun x h=>by
  have hex:=List.all_eq_true.1 hx x (by simpa using h)
  have hd:=r.ops x h
  cases hv:ρ x with
  | x v=>rw [hv,Den] at hd;rw [hd];rfl
  | _=>rw [hv] at hex;cases hex
 unfold Oper.wp
 rw [he,hrun w]
 exact hKc _ _ (Below.refl _ _) (by rw [Den])
theorem XaW (x:Operand) (ho:o.op=.move x):Evl P o ρ H (ρ x):=by
 intro V a w Kc Q r hKc
 unfold Oper.wp execOp
 simp only [ho,Sem.run_pure,Oper.upon];exact hKc _ _ (Below.refl _ _) (r.ops x (by simp [ho,Op.operands]))
theorem Xbo (x:Operand) (ho:o.op=.assign x):Evl P o ρ H (ρ x):=by
 intro V a w Kc Q r hKc
 unfold Oper.wp execOp
 simp only [ho,Sem.run_pure,Oper.upon];exact hKc _ _ (Below.refl _ _) (r.ops x (by simp [ho,Op.operands]))
theorem Xcd (x:Operand) (i:Nat) (l:List AV) (av:AV) (ho:o.op=.extract x i) (hx:ρ x=.tup l) (hi:l[i]?=some av):Evl P o ρ H av:=by
 intro V a w Kc Q r hKc
 have hd:=r.ops x (by simp [ho,Op.operands])
 rw [hx,Den] at hd
 obtain ⟨vals,hv,hl⟩:=hd
 obtain ⟨u,hu,hdu⟩:=hl.get i av hi
 unfold Oper.wp execOp
 simp only [ho,hv,Instr.extract,Sem.run_bind,List.getElem?_toArray,hu,Sem.run_pure,Result.andThen_ok,Oper.upon]
 exact hKc _ _ (Below.refl _ _) hdu
theorem XdT (c x y:Operand) (b:Bool) (av:AV) (ho:o.op=.pick c x y) (hc:ρ c=.x (.bool b)) (h1:b=true→∀V (w:World) v,Den (FB V H) w (ρ x) v→Den (FB V H) w av v) (h2:b=false→∀V (w:World) v,Den (FB V H) w (ρ y) v→Den (FB V H) w av v):Evl P o ρ H av:=by
 intro V a w Kc Q r hKc
 have hd:=r.evx (x:=c) (by simp [ho,Op.operands]) hc
 unfold Oper.wp execOp
 simp only [ho,hd,asBool,Sem.run_bind,Sem.run_pure,Result.andThen_ok,Oper.upon]
 refine hKc _ _ (Below.refl _ _) ?_
 cases b
 ·exact h2 rfl _ _ _ (r.ops y (by simp [ho,Op.operands]))
 ·exact h1 rfl _ _ _ (r.ops x (by simp [ho,Op.operands]))
theorem Xem (c x y:Operand) (q s:Bool) (ho:o.op=.pick c x y) (hc:ρ c=.x (.bool q)) (hx:ρ x=.g q (.x (.bool s))) (hy:ρ y=.x (.bool false)):Evl P o ρ H (.x (.bool (q && s))):=by
 refine XdT c x y q _ ho hc (fun hq V w v h=>?_) (fun hq V w v h=>?_)
 ·rw [hx,Den] at h
  have:=h.1 hq
  rw [Den] at this ⊢
  rw [this,hq];rfl
 ·rw [hy,Den] at h;rw [hq,Den,h];rfl
theorem Xf0 (c x y:Operand) (q s:Bool) (ho:o.op=.pick c x y) (hc:ρ c=.x (.bool q)) (hx:ρ y=.g (!q) (.x (.bool s))) (hy:ρ x=.x (.bool true)):Evl P o ρ H (.x (.bool (q || s))):=by
 refine XdT c x y q _ ho hc (fun hq V w v h=>?_) (fun hq V w v h=>?_)
 ·rw [hy,Den] at h;rw [hq,Den,h];rfl
 ·rw [hx,Den] at h
  have:=h.1 (by rw [hq];rfl)
  rw [Den] at this ⊢
  rw [this,hq];rfl
theorem XeC (c x y:Operand) (q s:Bool) (ho:o.op=.pick c x y) (hc:ρ c=.x (.bool q)) (hx:ρ x=str (.g q (.x (.bool s)))) (hy:ρ y=.x (.bool false)):Evl P o ρ H (.x (.bool (q && s))):=by
 refine XdT c x y q _ ho hc (fun hq V w v h=>?_) (fun hq V w v h=>?_)
 ·subst hq
  rw [hx] at h
  simp only [str,Den] at h ⊢
  rw [h];rfl
 ·rw [hy,Den] at h;rw [hq,Den,h];rfl
theorem Xf1 (c x y:Operand) (q s:Bool) (ho:o.op=.pick c x y) (hc:ρ c=.x (.bool q)) (hx:ρ y=str (.g (!q) (.x (.bool s)))) (hy:ρ x=.x (.bool true)):Evl P o ρ H (.x (.bool (q || s))):=by
 refine XdT c x y q _ ho hc (fun hq V w v h=>?_) (fun hq V w v h=>?_)
 ·rw [hy,Den] at h;rw [hq,Den,h];rfl
 ·subst hq
  rw [hx] at h
  simp only [Bool.not_false,str,Den] at h ⊢
  rw [h];rfl
theorem XcW (c x y:Operand) (ho:o.op=.pick c x y) (hc:ρ c=.x (.bool false)):Evl P o ρ H (str (ρ y)):=XdT c x y false _ ho hc (fun h=>by cases h) fun _ _ _ _ h=>h.str
theorem Xdj (c x y:Operand) (ho:o.op=.pick c x y) (hc:ρ c=.x (.bool true)):Evl P o ρ H (str (ρ x)):=XdT c x y true _ ho hc (fun _ _ _ _ h=>h.str) (fun h=>by cases h)
end
end Go.Proofs.YtdlblokjfoggpaaGreatDoor
