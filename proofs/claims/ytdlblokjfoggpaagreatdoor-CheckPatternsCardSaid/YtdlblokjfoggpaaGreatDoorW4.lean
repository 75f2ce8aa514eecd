import Derived.Test.YtdlblokjfoggpaaGreatDoorW3
/- A walk over symbolic memory: how a function ends, calls that lend, calls of function values, regions that draw. No program in sight. -/
set_option linter.unusedSimpArgs false
set_option linter.unusedVariables false
set_option maxRecDepth 100000
set_option maxHeartbeats 8000000
namespace Go.Proofs.YtdlblokjfoggpaaGreatDoor
open Go.RowKit
section
variable {P:Program} {Δ:List Deferred} {V O:Nat→Prop} {w0 w w':World} {H H' D:List Hp} {T T':List AV} {a:Act} {o:Oper} {K:List AV→List Hp→Prop}
theorem Xet (hok:HOk V w H) {vs:List Value} (hd:DenL (FB V H) w T vs) (h:Xaj H T H' T'):HOk V w H'∧DenL (FB V H') w T' vs∧∀x∈H',∀k,x.blk=some k→Xch H k:=by
 obtain ⟨D,R,hp,hH,hT⟩:=h.ex
 have hok1:HOk V w (D++R):=⟨fun x hx=>(hok.ok x (hp.mem_iff.2 hx)).weak (FB.perm hp),hp.pairwise hok.apart (fun {a b} hab k hb ha=>hab k ha hb),fun x hx=>hok.lt x (hp.mem_iff.2 hx)⟩
 have hd1:=hd.weak (FB.perm (V:=V) hp)
 have hap:=List.pairwise_append.1 hok1.apart
 have hF:∀k,FB V H' k→FB V (D++R) k:=fun k hk=>hk.imp id fun ⟨x,hx,e⟩=>by
  obtain ⟨y,hy,hxy⟩:=hH.mem x hx
  exact ⟨y,by simp [hy],hxy.blk▸e⟩
 have hD:∀h∈D,XgS (FB V (D++R)) w h∧∀k,h.blk=some k→¬FB V H' k:=fun h hh=>⟨hok1.ok h (by simp [hh]),fun k hk hf=>by
  rcases hf with hv|⟨x,hx,e⟩
  ·exact (hok1.lt h (by simp [hh]) k hk).2 hv
  ·obtain ⟨y,hy,hxy⟩:=hH.mem x hx
   exact hap.2.2 h hh y hy k hk (hxy.blk▸e)⟩
 refine ⟨⟨fun x hx=>?_,hH.apart hap.2.1,fun x hx k hk=>?_⟩,hT.den hF hD _ hd1,fun x hx k hk=>?_⟩
 ·obtain ⟨y,hy,hxy⟩:=hH.mem x hx
  exact hxy.ok hF hD (hok1.ok y (by simp [hy]))
 ·obtain ⟨y,hy,hxy⟩:=hH.mem x hx
  exact hok1.lt y (by simp [hy]) k (hxy.blk▸hk)
 ·obtain ⟨y,hy,hxy⟩:=hH.mem x hx
  exact ⟨y,hp.mem_iff.2 (by simp [hy]),hxy.blk▸hk⟩
def RV (P:Program) (T:List AV) (H:List Hp) (rv:ResultVar) (av:AV):Prop:=
 (∃t,rv=.tmp t∧av=ev T (.tmp t))∨∃t ty b cells agg n,∃i:Nat,rv=.cell t ty∧ev T (.tmp t)=.x (.pointer (some ⟨b,0,none⟩))∧H[i]?=some (.box b cells)∧Xis P ty=some (agg,n)∧n≤cells.length∧0 < cells.length∧av=ldA agg n cells
theorem RV.tmp (t:Nat):RV P T H (.tmp t) (ev T (.tmp t)):=.inl ⟨t,rfl,rfl⟩
theorem RV.cell (i:Nat) {t:Nat} {ty:TypeId} {b:Nat} {cells:List AV} {agg:Bool} {n:Nat} (h1:ev T (.tmp t)=.x (.pointer (some ⟨b,0,none⟩))) (h2:H[i]?=some (.box b cells)) (h3:Xis P ty=some (agg,n)) (h4:n≤cells.length) (h5:0 < cells.length):RV P T H (.cell t ty) (ldA agg n cells):=
 .inr ⟨t,ty,b,cells,agg,n,i,rfl,h1,h2,h3,h4,h5,rfl⟩
def RR (P:Program) (a:Act) (w:World) (v:Value):ResultVar→Prop
 | .tmp t=>a.tmps.getD t undef=v
 | .cell p t=>∃ad,a.tmps.getD p undef=.pointer (some ad)∧(loadVar t ad).run P w=.ok v w
theorem RV.run (r:Rel Δ V O w0 H T a w) {rv:ResultVar} {av:AV} (h:RV P T H rv av):∃v,RR P a w v rv∧Den (FB V H) w av v:=by
 rcases h with ⟨t,rfl,rfl⟩|⟨t,ty,b,cells,agg,n,i,rfl,h1,h2,h3,h4,h5,rfl⟩
 ·exact ⟨_,rfl,r.ev (.tmp t)⟩
 ·obtain ⟨vals,hd,hl,hc⟩:=r.hp i _ h2
  obtain ⟨v,hr,hdv⟩:=Xb2 (P:=P) ty agg n h3 w _ b 0 cells vals hd (fun j u hj=>by simpa using (hc j u hj).1) h4 (fun _=>h5)
  exact ⟨v,⟨_,r.evx h1,hr⟩,hdv⟩
def Res (P:Program) (fn:Func) (T:List AV) (H:List Hp) (r:AV) (H':List Hp):Prop:=
 ∀Δ V O w0 a w,Rel Δ V O w0 H T a w→∃v,(results fn a.tmps).run P w=.ok v w∧Den (FB V H') w r v∧HOk V w H'∧∀h∈H',∀k,h.blk=some k→Xch H k
theorem XaF {fn:Func} {x:ResultVar} {av r:AV} (hr:fn.results=#[x]) (h:RV P T H x av) (hw:Xaj H [av] H' [r]):Res P fn T H r H':=by
 intro Δ V O w0 a w rel
 obtain ⟨v,h1,h2⟩:=h.run rel
 have hd:DenL (FB V H) w [av] [v]:=by simp only [DenL];exact ⟨v,[],rfl,h2,rfl⟩
 obtain ⟨g1,g2,g3⟩:=Xet rel.hok hd hw
 refine ⟨v,?_,by simp only [DenL] at g2;obtain ⟨u,us,e,hu,_⟩:=g2;cases e;exact hu,g1,g3⟩
 cases x with
 | tmp t=>simp only [RR] at h1;simp at h1;simp [results,hr,h1]
 | cell p t=>obtain ⟨ad,e1,e2⟩:=h1;simp at e1;simp [results,hr,e1,asAddr,e2]
theorem Xfa {fn:Func} (hr:fn.results=#[]) (hw:Xaj H [] H' []):Res P fn T H (.x (.tuple #[])) H':=by
 intro Δ V O w0 a w rel
 obtain ⟨g1,g2,g3⟩:=Xet (vs:=[]) rel.hok (by rw [DenL]) hw
 exact ⟨.tuple #[],by simp [results,hr],by simp [Den],g1,g3⟩
theorem XbR {fn:Func} {x1 x2:ResultVar} {a1 a2:AV} {r1 r2:AV} (hr:fn.results=#[x1,x2]) (h1:RV P T H x1 a1) (h2:RV P T H x2 a2) (hw:Xaj H [a1,a2] H' [r1,r2]):Res P fn T H (.tup [r1,r2]) H':=by
 intro Δ V O w0 a w rel
 obtain ⟨v1,e1,d1⟩:=h1.run rel
 obtain ⟨v2,e2,d2⟩:=h2.run rel
 have hd:DenL (FB V H) w [a1,a2] [v1,v2]:=by simp only [DenL];exact ⟨_,_,rfl,d1,_,_,rfl,d2,rfl⟩
 obtain ⟨g1,g2,g3⟩:=Xet rel.hok hd hw
 refine ⟨.tuple #[v1,v2],?_,by rw [Den];exact ⟨[v1,v2],rfl,g2⟩,g1,g3⟩
 cases x1<;>cases x2
 ·simp only [RR] at e1;simp at e1;simp only [RR] at e2;simp at e2;simp [results,hr,asAddr,e1,e2]
 ·simp only [RR] at e1;simp at e1;obtain ⟨ad2,e2,f2⟩:=e2;simp at e2;simp [results,hr,asAddr,e1,e2,f2]
 ·obtain ⟨ad1,e1,f1⟩:=e1;simp at e1;simp only [RR] at e2;simp at e2;simp [results,hr,asAddr,e1,f1,e2]
 ·obtain ⟨ad1,e1,f1⟩:=e1;simp at e1;obtain ⟨ad2,e2,f2⟩:=e2;simp at e2;simp [results,hr,asAddr,e1,f1,e2,f2]
theorem XwP {fn:Func} {x1 x2 x3:ResultVar} {a1 a2 a3:AV} {r1 r2 r3:AV} (hr:fn.results=#[x1,x2,x3]) (h1:RV P T H x1 a1) (h2:RV P T H x2 a2) (h3:RV P T H x3 a3) (hw:Xaj H [a1,a2,a3] H' [r1,r2,r3]):Res P fn T H (.tup [r1,r2,r3]) H':=by
 intro Δ V O w0 a w rel
 obtain ⟨v1,e1,d1⟩:=h1.run rel
 obtain ⟨v2,e2,d2⟩:=h2.run rel
 obtain ⟨v3,e3,d3⟩:=h3.run rel
 have hd:DenL (FB V H) w [a1,a2,a3] [v1,v2,v3]:=by simp only [DenL];exact ⟨_,_,rfl,d1,_,_,rfl,d2,_,_,rfl,d3,rfl⟩
 obtain ⟨g1,g2,g3⟩:=Xet rel.hok hd hw
 refine ⟨.tuple #[v1,v2,v3],?_,by rw [Den];exact ⟨[v1,v2,v3],rfl,g2⟩,g1,g3⟩
 cases x1<;>cases x2<;>cases x3
 ·simp only [RR] at e1;simp at e1;simp only [RR] at e2;simp at e2;simp only [RR] at e3;simp at e3;simp [results,hr,asAddr,e1,e2,e3]
 ·simp only [RR] at e1;simp at e1;simp only [RR] at e2;simp at e2;obtain ⟨ad3,e3,f3⟩:=e3;simp at e3;simp [results,hr,asAddr,e1,e2,e3,f3]
 ·simp only [RR] at e1;simp at e1;obtain ⟨ad2,e2,f2⟩:=e2;simp at e2;simp only [RR] at e3;simp at e3;simp [results,hr,asAddr,e1,e2,f2,e3]
 ·simp only [RR] at e1;simp at e1;obtain ⟨ad2,e2,f2⟩:=e2;simp at e2;obtain ⟨ad3,e3,f3⟩:=e3;simp at e3;simp [results,hr,asAddr,e1,e2,f2,e3,f3]
 ·obtain ⟨ad1,e1,f1⟩:=e1;simp at e1;simp only [RR] at e2;simp at e2;simp only [RR] at e3;simp at e3;simp [results,hr,asAddr,e1,f1,e2,e3]
 ·obtain ⟨ad1,e1,f1⟩:=e1;simp at e1;simp only [RR] at e2;simp at e2;obtain ⟨ad3,e3,f3⟩:=e3;simp at e3;simp [results,hr,asAddr,e1,f1,e2,e3,f3]
 ·obtain ⟨ad1,e1,f1⟩:=e1;simp at e1;obtain ⟨ad2,e2,f2⟩:=e2;simp at e2;simp only [RR] at e3;simp at e3;simp [results,hr,asAddr,e1,f1,e2,f2,e3]
 ·obtain ⟨ad1,e1,f1⟩:=e1;simp at e1;obtain ⟨ad2,e2,f2⟩:=e2;simp at e2;obtain ⟨ad3,e3,f3⟩:=e3;simp at e3;simp [results,hr,asAddr,e1,f1,e2,f2,e3,f3]
theorem XpT {fn:Func} {x1 x2 x3 x4:ResultVar} {a1 a2 a3 a4:AV} {r1 r2 r3 r4:AV} (hr:fn.results=#[x1,x2,x3,x4]) (h1:RV P T H x1 a1) (h2:RV P T H x2 a2) (h3:RV P T H x3 a3) (h4:RV P T H x4 a4) (hw:Xaj H [a1,a2,a3,a4] H' [r1,r2,r3,r4]):Res P fn T H (.tup [r1,r2,r3,r4]) H':=by
 intro Δ V O w0 a w rel
 obtain ⟨v1,e1,d1⟩:=h1.run rel
 obtain ⟨v2,e2,d2⟩:=h2.run rel
 obtain ⟨v3,e3,d3⟩:=h3.run rel
 obtain ⟨v4,e4,d4⟩:=h4.run rel
 have hd:DenL (FB V H) w [a1,a2,a3,a4] [v1,v2,v3,v4]:=by simp only [DenL];exact ⟨_,_,rfl,d1,_,_,rfl,d2,_,_,rfl,d3,_,_,rfl,d4,rfl⟩
 obtain ⟨g1,g2,g3⟩:=Xet rel.hok hd hw
 refine ⟨.tuple #[v1,v2,v3,v4],?_,by rw [Den];exact ⟨[v1,v2,v3,v4],rfl,g2⟩,g1,g3⟩
 cases x1<;>cases x2<;>cases x3<;>cases x4
 ·simp only [RR] at e1;simp at e1;simp only [RR] at e2;simp at e2;simp only [RR] at e3;simp at e3;simp only [RR] at e4;simp at e4;simp [results,hr,asAddr,e1,e2,e3,e4]
 ·simp only [RR] at e1;simp at e1;simp only [RR] at e2;simp at e2;simp only [RR] at e3;simp at e3;obtain ⟨ad4,e4,f4⟩:=e4;simp at e4;simp [results,hr,asAddr,e1,e2,e3,e4,f4]
 ·simp only [RR] at e1;simp at e1;simp only [RR] at e2;simp at e2;obtain ⟨ad3,e3,f3⟩:=e3;simp at e3;simp only [RR] at e4;simp at e4;simp [results,hr,asAddr,e1,e2,e3,f3,e4]
 ·simp only [RR] at e1;simp at e1;simp only [RR] at e2;simp at e2;obtain ⟨ad3,e3,f3⟩:=e3;simp at e3;obtain ⟨ad4,e4,f4⟩:=e4;simp at e4;simp [results,hr,asAddr,e1,e2,e3,f3,e4,f4]
 ·simp only [RR] at e1;simp at e1;obtain ⟨ad2,e2,f2⟩:=e2;simp at e2;simp only [RR] at e3;simp at e3;simp only [RR] at e4;simp at e4;simp [results,hr,asAddr,e1,e2,f2,e3,e4]
 ·simp only [RR] at e1;simp at e1;obtain ⟨ad2,e2,f2⟩:=e2;simp at e2;simp only [RR] at e3;simp at e3;obtain ⟨ad4,e4,f4⟩:=e4;simp at e4;simp [results,hr,asAddr,e1,e2,f2,e3,e4,f4]
 ·simp only [RR] at e1;simp at e1;obtain ⟨ad2,e2,f2⟩:=e2;simp at e2;obtain ⟨ad3,e3,f3⟩:=e3;simp at e3;simp only [RR] at e4;simp at e4;simp [results,hr,asAddr,e1,e2,f2,e3,f3,e4]
 ·simp only [RR] at e1;simp at e1;obtain ⟨ad2,e2,f2⟩:=e2;simp at e2;obtain ⟨ad3,e3,f3⟩:=e3;simp at e3;obtain ⟨ad4,e4,f4⟩:=e4;simp at e4;simp [results,hr,asAddr,e1,e2,f2,e3,f3,e4,f4]
 ·obtain ⟨ad1,e1,f1⟩:=e1;simp at e1;simp only [RR] at e2;simp at e2;simp only [RR] at e3;simp at e3;simp only [RR] at e4;simp at e4;simp [results,hr,asAddr,e1,f1,e2,e3,e4]
 ·obtain ⟨ad1,e1,f1⟩:=e1;simp at e1;simp only [RR] at e2;simp at e2;simp only [RR] at e3;simp at e3;obtain ⟨ad4,e4,f4⟩:=e4;simp at e4;simp [results,hr,asAddr,e1,f1,e2,e3,e4,f4]
 ·obtain ⟨ad1,e1,f1⟩:=e1;simp at e1;simp only [RR] at e2;simp at e2;obtain ⟨ad3,e3,f3⟩:=e3;simp at e3;simp only [RR] at e4;simp at e4;simp [results,hr,asAddr,e1,f1,e2,e3,f3,e4]
 ·obtain ⟨ad1,e1,f1⟩:=e1;simp at e1;simp only [RR] at e2;simp at e2;obtain ⟨ad3,e3,f3⟩:=e3;simp at e3;obtain ⟨ad4,e4,f4⟩:=e4;simp at e4;simp [results,hr,asAddr,e1,f1,e2,e3,f3,e4,f4]
 ·obtain ⟨ad1,e1,f1⟩:=e1;simp at e1;obtain ⟨ad2,e2,f2⟩:=e2;simp at e2;simp only [RR] at e3;simp at e3;simp only [RR] at e4;simp at e4;simp [results,hr,asAddr,e1,f1,e2,f2,e3,e4]
 ·obtain ⟨ad1,e1,f1⟩:=e1;simp at e1;obtain ⟨ad2,e2,f2⟩:=e2;simp at e2;simp only [RR] at e3;simp at e3;obtain ⟨ad4,e4,f4⟩:=e4;simp at e4;simp [results,hr,asAddr,e1,f1,e2,f2,e3,e4,f4]
 ·obtain ⟨ad1,e1,f1⟩:=e1;simp at e1;obtain ⟨ad2,e2,f2⟩:=e2;simp at e2;obtain ⟨ad3,e3,f3⟩:=e3;simp at e3;simp only [RR] at e4;simp at e4;simp [results,hr,asAddr,e1,f1,e2,f2,e3,f3,e4]
 ·obtain ⟨ad1,e1,f1⟩:=e1;simp at e1;obtain ⟨ad2,e2,f2⟩:=e2;simp at e2;obtain ⟨ad3,e3,f3⟩:=e3;simp at e3;obtain ⟨ad4,e4,f4⟩:=e4;simp at e4;simp [results,hr,asAddr,e1,f1,e2,f2,e3,f3,e4,f4]
def Xdx (P:Program) (fn:Func) (Q:AV→List Hp→Prop):Xb9:=fun e T H=>(e=.ret∨e=.normal)∧∃r H',Res P fn T H r H'∧Q r H'
theorem Xaa {fn:Func} {Q:AV→List Hp→Prop} (r:AV) (H':List Hp) (h:Res P fn T H r H') (q:Q r H'):Xdx P fn Q .ret T H:=⟨.inl rfl,r,H',h,q⟩
theorem XbF {fn:Func} {Q:AV→List Hp→Prop} (r:AV) (H':List Hp) (h:Res P fn T H r H') (q:Q r H'):Xdx P fn Q .normal T H:=⟨.inr rfl,r,H',h,q⟩
theorem Xcx {f:FuncId} {fn:Func} {c:Code} {args:List AV} {Q:AV→List Hp→Prop} (hf:P.funcs[f]?=some fn) (hb:fn.body=some c)
  (h:awp P c (Xdx P fn Q) (args++List.replicate (fn.ntmps - args.length) .top) H):Xay P f H args Q:=by
 intro V w vs hV hH hd hgl
 have hlen:=hd.len
 refine calls_of_wp hf hb ?_
 have r:Rel [] V (Xch H) w H (args++List.replicate (fn.ntmps - args.length) .top) { tmps:=vs.toArray++Array.replicate (fn.ntmps - vs.toArray.size) undef,defers:=[] } w:=by
  refine ⟨?_,hH,Fr.refl _ _,fun x hx k hk=>.inl ⟨x,hx,hk⟩,rfl,hV,hgl⟩
  simp only [Array.toList_append,Array.toList_replicate,List.size_toArray,hlen]
  refine hd.app (DenL.of (by simp) fun j av u h1 h2=>?_)
  rw [List.getElem?_replicate] at h1
  split at h1
  ·cases h1;rw [Den];trivial
  ·cases h1
 refine wp_mono (h [] V (Xch H) w _ w r) ?_
 rintro e a' w' ⟨T',H1,r1,he,res,H',hres,hq⟩
 obtain ⟨v,g1,g2,g3,g4⟩:=hres [] V (Xch H) w a' w' r1
 have hend:∃r H' v,Q r H'∧Ending.returned v=.returned v∧Den (FB V H') w' r v∧HOk V w' H'∧Fr (Xch H) w w'∧∀h∈H',∀k,h.blk=some k→Xch H k∨w.heap.size≤k:=
  ⟨res,H',v,hq,rfl,g2,g3,r1.fr,fun x hx k hk=>by obtain ⟨y,hy,e⟩:=g4 x hx k hk;exact r1.own y hy k e⟩
 rcases he with rfl|rfl
 ·refine ⟨r1.defers,v,g1,res,H',v,hq,rfl,g2,g3,r1.fr,fun x hx k hk=>by obtain ⟨y,hy,e⟩:=g4 x hx k hk;exact r1.own y hy k e⟩
 ·refine ⟨r1.defers,v,g1,res,H',v,hq,rfl,g2,g3,r1.fr,fun x hx k hk=>by obtain ⟨y,hy,e⟩:=g4 x hx k hk;exact r1.own y hy k e⟩
theorem Xf2 {f:FuncId} {args:List Value} {v:Value} (h:∀w,Gw w→Calls P f args.toArray w fun e w'=>e=.returned v∧Ext w w') (H:List Hp):Xay P f H (args.map .x) fun r H'=>r=.x v∧H'=H:=by
 intro V w vs hV hH hd hgl
 rw [hd.exact']
 refine (h w hgl.2).mono ?_
 rintro e w' ⟨rfl,hE⟩
 refine ⟨.x v,H,v,⟨rfl,rfl⟩,rfl,by rw [Den],⟨fun x hx=>(hH.ok x hx).conv (fun k hk=>.inl hk) (fun k hk _=>hE.block k hk) hE.size (fun k hk=>hE.block k (hH.lt x hx k hk).1),hH.apart,fun x hx k hk=>⟨Nat.lt_of_lt_of_le (hH.lt x hx k hk).1 hE.size,(hH.lt x hx k hk).2⟩⟩,hE.fr _,fun x hx k hk=>.inl ⟨x,hx,hk⟩⟩
theorem Xfb {f:FuncId} {args:List Value} {v:Value} (h:∀w,Calls P f args.toArray w fun e w'=>e=.returned v∧Ext w w') (H:List Hp):Xay P f H (args.map .x) fun r H'=>r=.x v∧H'=H:=Xf2 (fun w _=>h w) H
theorem Xay.frame {f:FuncId} {args:List AV} {Q:AV→List Hp→Prop} (h:Xay P f H args Q) (R:List Hp):Xay P f (H++R) args fun r H'=>∃H1,Q r H1∧H'=H1++R:=by
 intro V w vs hV hH hd hgl
 have hap:=List.pairwise_append.1 hH.apart
 have hVF:∀H1 k,FB (FB V R) H1 k↔FB V (H1++R) k:=fun H1 k=>by
  simp only [FB,List.mem_append]
  constructor
  ·rintro ((h|⟨x,hx,e⟩)|⟨x,hx,e⟩)
   ·exact .inl h
   ·exact .inr ⟨x,.inr hx,e⟩
   ·exact .inr ⟨x,.inl hx,e⟩
  ·rintro (h|⟨x,hx|hx,e⟩)
   ·exact .inl (.inl h)
   ·exact .inr ⟨x,hx,e⟩
   ·exact .inl (.inr ⟨x,hx,e⟩)
 refine (h (FB V R) w vs (fun k hk=>?_) ⟨fun x hx=>(hH.ok x (by simp [hx])).weak fun k hk=>(hVF H k).1 hk,hap.1,fun x hx k hk=>⟨(hH.lt x (by simp [hx]) k hk).1,fun hv=>?_⟩⟩ (hd.weak fun k hk=>(hVF H k).1 hk) (hgl.mono fun k ⟨x,hx,e⟩=>⟨x,by simp [hx],e⟩)).mono ?_
 ·rcases hk with hk|⟨x,hx,e⟩
  ·exact hV k hk
  ·exact (hH.lt x (by simp [hx]) k e).1
 ·rcases hv with hv|⟨y,hy,e⟩
  ·exact (hH.lt x (by simp [hx]) k hk).2 hv
  ·exact hap.2.2 x hx y hy k hk e
 ·rintro e w' ⟨r,H1,v,hq,rfl,hdv,hok,hfr,hown⟩
  have hF:∀k,FB V (H1++R) k→FB V (H++R) k∨w.heap.size≤k:=fun k hk=>by
   rcases (hVF H1 k).2 hk with hk|⟨x,hx,e⟩
   ·exact .inl ((hVF H k).1 (.inl hk))
   ·rcases hown x hx k e with ⟨y,hy,e'⟩|h
    ·exact .inl ((hVF H k).1 (.inr ⟨y,hy,e'⟩))
    ·exact .inr h
  have hw:∀k,k < w.heap.size→¬FB V (H++R) k→w'.heap[k]?=w.heap[k]?:=fun k hk hn=>hfr.block k hk fun ⟨y,hy,e⟩=>hn (.inr ⟨y,by simp [hy],e⟩)
  refine ⟨r,H1++R,v,⟨H1,hq,rfl⟩,rfl,hdv.weak fun k hk=>(hVF H1 k).2 hk,⟨fun x hx=>?_,List.pairwise_append.2 ⟨hok.apart,hap.2.1,fun x hx y hy k hk e=>(hok.lt x hx k hk).2 (.inr ⟨y,hy,e⟩)⟩,fun x hx k hk=>?_⟩,?_,fun x hx k hk=>?_⟩
  ·rcases List.mem_append.1 hx with hx|hx
   ·exact (hok.ok x hx).weak fun k hk=>(hVF H1 k).2 hk
   ·exact (hH.ok x (by simp [hx])).conv hF hw hfr.size fun k hk=>hfr.block k (hH.lt x (by simp [hx]) k hk).1 fun ⟨y,hy,e⟩=>hap.2.2 y hy x hx k e hk
  ·rcases List.mem_append.1 hx with hx|hx
   ·exact ⟨(hok.lt x hx k hk).1,fun hv=>(hok.lt x hx k hk).2 (.inl hv)⟩
   ·exact ⟨Nat.lt_of_lt_of_le (hH.lt x (by simp [hx]) k hk).1 hfr.size,(hH.lt x (by simp [hx]) k hk).2⟩
  ·exact ⟨hfr.os,hfr.tape,hfr.output,hfr.size,fun k hk hn=>hfr.block k hk fun ⟨y,hy,e⟩=>hn ⟨y,by simp [hy],e⟩⟩
  ·rcases List.mem_append.1 hx with hx|hx
   ·rcases hown x hx k hk with ⟨y,hy,e⟩|h
    ·exact .inl ⟨y,by simp [hy],e⟩
    ·exact .inr h
   ·exact .inl ⟨x,by simp [hx],hk⟩
end
open Go.RowKit
section
variable {P:Program} {Δ:List Deferred} {V O:Nat→Prop} {w0 w w':World} {H H' D:List Hp} {T T':List AV} {a:Act} {o:Oper} {K:List AV→List Hp→Prop} {ρ:Operand→AV} {ops:Array Oper} {Q:Xb9}
theorem XhE (r:OK V H ρ o a w):∀l:List Operand,(∀x∈l,x∈o.op.operands)→DenL (FB V H) w (l.map ρ) (l.map a.eval)
 | [],_=>by simp [DenL]
 | x :: l,h=>by simp only [Xyt];rw [DenL];exact ⟨_,_,rfl,r.ops x (h x (by simp)),XhE r l fun y hy=>h y (by simp [hy])⟩
theorem Xby {c:Operand} {args:Array Operand} {tys:Array TypeId} {fs cs:Array Value} (f:FuncId) (fn:Func) (avs:List AV) (res:AV) (ho:o.op=.call { callee:=.value c,args:=args,argTypes:=tys }) (hc:ρ c=.x (.func (.func f) fs cs))
  (hf:P.funcs[f]?=some fn) (hn:fn.name≠ "runtime.NumGoroutine") (hb:fn.body.isSome=true) (hargs:VwL [] (fs.toList.map .x++args.toList.map ρ++cs.toList.map .x) avs) (hS:Xay P f [] avs fun r H'=>r=res∧H'=[]):Evl P o ρ H res:=by
 intro V a w Kc Qc r hKc
 have hmem:∀x∈args.toList,x∈o.op.operands:=fun x hx=>by simp [ho,Op.operands,Call.operands];exact .inr (by simpa using hx)
 have hd:DenL (FB V H) w avs (fs.toList++args.toList.map a.eval++cs.toList):=hargs.den (fun k hk=>hk) (fun h hh=>by cases hh) _ ((DenL.exact.app (XhE r _ hmem)).app DenL.exact)
 have hFF:∀k,FB (FB V H) [] k→FB V H k:=fun k hk=>by
  rcases hk with hk|⟨x,hx,_⟩
  ·exact hk
  ·cases hx
 refine Xea ho (r.evx (by simp [ho,Op.operands,Call.operands]) hc) hf hn hb (vs:=(fs.toList++args.toList.map a.eval++cs.toList).toArray) (by apply Array.toList_inj.1;simp) ?_
 refine (hS (FB V H) w _ (fun k hk=>by
  rcases hk with hk|⟨x,hx,e⟩
  ·exact r.vlt k hk
  ·exact (r.hok.lt x hx k e).1) ⟨fun x hx=>(by cases hx),.nil,fun x hx=>(by cases hx)⟩ (hd.weak hFF) ⟨fun k _ ⟨x,hx,_⟩=>(by cases hx),r.gw⟩).mono ?_
 rintro e w' ⟨res',H',v,⟨rfl,rfl⟩,rfl,hdv,_,hfr,_⟩
 have hE:Ext w w':=⟨hfr.os,hfr.tape,hfr.output,hfr.size,fun k hk=>hfr.block k hk fun ⟨y,hy,_⟩=>by cases hy⟩
 exact ⟨v,rfl,hKc v w' hE (hdv.weak fun k hk=>.inl hk)⟩
/-! ### Regions that draw their order -/
def Ent (P:Program) (ops:Array Oper) (o:Oper) (T:List AV) (H:List Hp) (e:AV):Prop:=
 (o.guard=none∧Evl P o (ev T) H e)∨∃j want t p av,o.guard=some (j,want)∧(ops[j]?).bind (·.dst)=some t∧gdc want (T.getD t .top)=some p∧e=.g p av∧(p=true→Evl P o (evs T) H av)
def dr (P:Program) (H:List Hp) (ops:Array Oper):List Oper→List AV→(List AV→Prop)→Prop
 | [],T,fin=>fin T
 | o :: rest,T,fin=>∃e,Ent P ops o T H e∧dr P H ops rest (Xa9 T o.dst e) fin
theorem XiI {fin:List AV→Prop} (h:fin T):dr P H ops [] T fin:=h
theorem Xvq {rest:List Oper} {fin:List AV→Prop} (hg:o.guard=none) (av:AV) (h:Evl P o (ev T) H av) (hK:dr P H ops rest (Xa9 T o.dst av) fin):dr P H ops (o :: rest) T fin:=⟨av,.inl ⟨hg,h⟩,hK⟩
theorem XxZ {rest:List Oper} {fin:List AV→Prop} {j:Nat} {want:Bool} {t:Nat} (p:Bool) (av:AV) (hg:o.guard=some (j,want)) (hd:(ops[j]?).bind (·.dst)=some t) (hp:gdc want (T.getD t .top)=some p)
  (h:p=true→Evl P o (evs T) H av) (hK:dr P H ops rest (Xa9 T o.dst (.g p av)) fin):dr P H ops (o :: rest) T fin:=⟨_,.inr ⟨j,want,t,p,av,hg,hd,hp,rfl,h⟩,hK⟩
def looks (ops:List Oper) (o:Oper):List Nat:=
 (o.op.operands.toList.filterMap fun|.tmp t=>some t|_=>none)++(match o.guard with|some (j,_)=>((ops[j]?).bind (·.dst)).toList|none=>[])
def Xkl (l:List Oper):Bool:=
 (l.zipIdx.all fun (o,i)=>o.after.toList.all fun e=>Region.binds .any e && decide (e.on < i)) &&
 (l.zipIdx.all fun (o,i)=>l.zipIdx.all fun (q,j)=>q.dst.isNone || i == j || q.dst != o.dst) &&
 (l.zipIdx.all fun (o,i)=>(looks l o).all fun t=>l.zipIdx.all fun (q,j)=>q.dst != some t || i == j || o.after.toList.any (·.on == j) || q.after.toList.any (·.on == i))
def Xed (l:List Oper) (es:Nat→AV) (T:List AV):Nat→List AV
 | 0=>T
 | k+1=>Xa9 (Xed l es T k) ((l[k]?).bind (·.dst)) (es k)
def XcB (l:List Oper) (es:Nat→AV) (T:List AV) (S:Nat→Bool):Nat→List AV
 | 0=>T
 | k+1=>if S k then Xa9 (XcB l es T S k) ((l[k]?).bind (·.dst)) (es k) else XcB l es T S k
theorem Xlk (T:List AV) (d:Option Tmp) (av:AV):(Xa9 T d av).length=T.length:=by cases d<;>simp [Xa9]
theorem Xco (l:List Oper) (es:Nat→AV) (T:List AV) (S:Nat→Bool) (k:Nat):(XcB l es T S k).length=T.length:=by
 induction k with
 | zero=>rfl
 | succ k ih=>simp only [XcB];split<;>simp [Xlk,ih]
theorem Xkh {T:List AV} {d:Option Tmp} {av:AV} {t:Nat} (h:d≠some t):(Xa9 T d av)[t]?=T[t]?:=by
 cases d with
 | none=>rfl
 | some d=>simp only [Xa9];rw [List.getElem?_set_ne];exact fun e=>h (by rw [e])
theorem Xkg {T:List AV} {av:AV} {t:Nat} (h:t < T.length):(Xa9 T (some t) av)[t]?=some av:=by simp [Xa9,h]
theorem Xbw (l:List Oper) (es:Nat→AV) (T:List AV) (S:Nat→Bool) (t:Nat):∀k,(∀j,j < k→S j=true→(l[j]?).bind (·.dst)≠some t)→(XcB l es T S k)[t]?=T[t]?
 | 0,_=>rfl
 | k+1,h=>by
   simp only [XcB]
   have ih:=Xbw l es T S t k fun j hj=>h j (by omega)
   split
   ·rename_i hs;rw [Xkh (h k (by omega) hs)];exact ih
   ·exact ih
theorem Xc7 (l:List Oper) (es:Nat→AV) (T:List AV) (S:Nat→Bool) (t:Nat) (ht:t < T.length) (j:Nat) (hS:S j=true) (hd:(l[j]?).bind (·.dst)=some t) (hu:∀i,i≠j→(l[i]?).bind (·.dst)≠some t) :
  ∀k,j < k→(XcB l es T S k)[t]?=some (es j)
 | 0,h=>by omega
 | k+1,h=>by
   simp only [XcB]
   by_cases hk:j=k
   ·subst hk
    rw [if_pos hS,hd]
    exact Xkg (by rw [Xco];exact ht)
   ·have ih:=Xc7 l es T S t ht j hS hd hu k (by omega)
    split
    ·rw [Xkh (hu k (fun e=>hk e.symm))];exact ih
    ·exact ih
theorem Xd3 (l:List Oper) (es:Nat→AV) (T:List AV) (S:Nat→Bool):∀k,(∀j,j < k→S j=true)→XcB l es T S k=Xed l es T k
 | 0,_=>rfl
 | k+1,h=>by simp only [XcB,Xed];rw [if_pos (h k (by omega)),Xd3 l es T S k fun j hj=>h j (by omega)]
theorem Xtn {fin:List AV→Prop} (l:List Oper) (T0:List AV):∀(rest:List Oper) (k:Nat) (es:Nat→AV),l.drop k=rest→dr P H ops rest (Xed l es T0 k) fin →
  ∃es':Nat→AV,(∀j,j < k→es' j=es j)∧(∀j o,k≤j→l[j]?=some o→Ent P ops o (Xed l es' T0 j) H (es' j))∧fin (Xed l es' T0 l.length)
 | [],k,es,hl,h=>by
   have hk:l.length≤k:=by simpa using hl
   refine ⟨es,fun _ _=>rfl,fun j o hj hjo=>?_,?_⟩
   ·have:=(List.getElem?_eq_some_iff.1 hjo).1;omega
   ·simp only [dr] at h
    have:Xed l es T0 k=Xed l es T0 l.length:=by
     clear h hl
     induction k with
     | zero=>have:l.length=0:=by omega
             rw [this]
     | succ k ih=>
       by_cases hk2:l.length≤k
       ·rw [←ih hk2];simp [Xed,List.getElem?_eq_none hk2,Xa9]
       ·have:l.length=k+1:=by omega
        rw [this]
    rw [←this];exact h
 | o :: rest,k,es,hl,h=>by
   simp only [dr] at h
   obtain ⟨e,he,hr⟩:=h
   have hko:l[k]?=some o:=by
    have:=congrArg (fun x=>x[0]?) hl
    simpa using this
   have hsame:∀j,j≤k→Xed l (fun i=>if i=k then e else es i) T0 j=Xed l es T0 j:=by
    intro j
    induction j with
    | zero=>intro _;rfl
    | succ j ih=>intro hj;simp only [Xed];rw [ih (by omega),if_neg (by omega)]
   obtain ⟨es',h1,h2,h3⟩:=Xtn (fin:=fin) l T0 rest (k+1) (fun i=>if i=k then e else es i) (by
    have:=congrArg List.tail hl
    simpa [List.tail_drop] using this) (by
    simp only [Xed]
    rw [hsame k (by omega),hko]
    simpa using hr)
   refine ⟨es',fun j hj=>by rw [h1 j (by omega)];simp;omega,fun j o' hj hjo=>?_,h3⟩
   by_cases hjk:j=k
   ·subst hjk
    rw [hko] at hjo;cases hjo
    have e1:es' j=e:=by rw [h1 j (by omega)];simp
    have e2:Xed l es' T0 j=Xed l es T0 j:=by
     have:∀i,i≤j→Xed l es' T0 i=Xed l es T0 i:=by
      intro i
      induction i with
      | zero=>intro _;rfl
      | succ i ih=>intro hi;simp only [Xed];rw [ih (by omega),h1 i (by omega),if_neg (by omega)]
     exact this j (Nat.le_refl _)
    rw [e1,e2];exact he
   ·exact h2 j o' (by omega) hjo
def cnt (S:Nat→Bool):Nat→Nat
 | 0=>0
 | k+1=>cnt S k+if S k then 0 else 1
theorem XrT (S S':Nat→Bool) (h:∀j,S j=true→S' j=true):∀k,cnt S' k≤cnt S k
 | 0=>Nat.le_refl _
 | k+1=>by
   have:=XrT S S' h k
   simp only [cnt]
   by_cases hs:S k=true
   ·simp [hs,h k hs];exact this
   ·simp [hs];split<;>omega
theorem XnJ (S S':Nat→Bool) (h:∀j,S j=true→S' j=true) (i:Nat) (h1:S i=false) (h2:S' i=true):∀k,i < k→cnt S' k < cnt S k
 | 0,hk=>by omega
 | k+1,hk=>by
   simp only [cnt]
   by_cases hik:i=k
   ·subst hik
    have:=XrT S S' h i
    simp [h1,h2];omega
   ·have:=XnJ S S' h i h1 h2 k (by omega)
    by_cases hs:S k=true
    ·simp [hs,h k hs];exact this
    ·simp [hs];split<;>omega
theorem XfQ (S:Nat→Bool):∀k,cnt S k=0→∀j,j < k→S j=true
 | 0,_,j,hj=>by omega
 | k+1,h,j,hj=>by
   simp only [cnt] at h
   by_cases hjk:j=k
   ·subst hjk
    cases hs:S j with
    | true=>rfl
    | false=>simp [hs] at h
   ·exact XfQ S k (by omega) j (by omega)
structure XlQ (l:List Oper):Prop where
 after:∀(i:Nat) (o:Oper),l[i]?=some o→∀e∈o.after,Region.binds .any e=true∧e.on < i
 one:∀(i j:Nat) (o q:Oper) (t:Nat),l[i]?=some o→l[j]?=some q→o.dst=some t→q.dst=some t→i=j
 look:∀(i j:Nat) (o q:Oper) (t:Nat),l[i]?=some o→l[j]?=some q→t∈looks l o→q.dst=some t→i=j∨(∃e∈o.after,e.on=j)∨∃e∈q.after,e.on=i
theorem XhY {l:List Oper} (h:Xkl l=true):XlQ l:=by
 unfold Xkl at h
 simp only [Bool.and_eq_true,List.all_eq_true] at h
 obtain ⟨⟨h1,h2⟩,h3⟩:=h
 have hz:∀(i:Nat) (o:Oper),l[i]?=some o→(o,i)∈l.zipIdx:=fun i o hi=>by
  rw [List.mem_zipIdx_iff_getElem?];exact hi
 refine ⟨fun i o hi e he=>?_,fun i j o q t hi hj ho hq=>?_,fun i j o q t hi hj ht hq=>?_⟩
 ·have:=h1 (o,i) (hz i o hi) e (by simpa using he)
  simpa using this
 ·have:=h2 (o,i) (hz i o hi) (q,j) (hz j q hj)
  simpa [ho,hq] using this
 ·have:=h3 (o,i) (hz i o hi) t ht (q,j) (hz j q hj)
  simp [hq] at this
  rcases this with (h|h)|h
  ·exact .inl h
  ·exact .inr (.inl (by obtain ⟨k,hk,e2⟩:=h;first|exact ⟨_,Array.getElem_mem hk,e2⟩|fail))
  ·exact .inr (.inr (by obtain ⟨k,hk,e2⟩:=h;first|exact ⟨_,Array.getElem_mem hk,e2⟩|fail))
theorem Xdu {l:List Oper} {j t:Nat} (h:(l[j]?).bind (·.dst)=some t):∃q,l[j]?=some q∧q.dst=some t:=Option.bind_eq_some_iff.1 h
theorem Xoq {l:List Oper} (hr:XlQ l) (es:Nat→AV) (T0:List AV) (S:Nat→Bool) (hcl:∀j q,l[j]?=some q→S j=true→∀e∈q.after,S e.on=true) (i:Nat) (o:Oper) (hi:l[i]?=some o) (hSi:S i=false) (haf:∀e∈o.after,S e.on=true) (t:Nat) (ht:t∈looks l o) :
  (XcB l es T0 S l.length)[t]?=(Xed l es T0 i)[t]?:=by
 by_cases hlt:t < T0.length
 ·rw [←Xd3 l es T0 (fun _=>true) i fun _ _=>rfl]
  by_cases hw:∃(j:Nat) (q:Oper),l[j]?=some q∧q.dst=some t
  ·obtain ⟨j,q,hj,hq⟩:=hw
   have hjl:=(List.getElem?_eq_some_iff.1 hj).1
   have huniq:∀k,k≠j→(l[k]?).bind (·.dst)≠some t:=fun k hk hb=>by
    obtain ⟨q',hk',hq'⟩:=Xdu hb
    exact hk (hr.one k j q' q t hk' hj hq' hq)
   have hdj:(l[j]?).bind (·.dst)=some t:=by rw [hj];exact hq
   rcases hr.look i j o q t hi hj ht hq with rfl|⟨e,he,rfl⟩|⟨e,he,rfl⟩
   ·rw [Xbw l es T0 S t _ fun k hk hs hb=>by
     by_cases hki:k=i
     ·subst hki;rw [hSi] at hs;cases hs
     ·exact huniq k hki hb,Xbw l es T0 (fun _=>true) t _ fun k hk hs=>huniq k (by omega)]
   ·rw [Xc7 l es T0 S t hlt _ (haf e he) hdj huniq _ hjl,Xc7 l es T0 (fun _=>true) t hlt _ rfl hdj huniq _ (hr.after i o hi e he).2]
   ·have hSj:S j=false:=by
     cases hs:S j with
     | false=>rfl
     | true=>have:=hcl j q hj hs e he;rw [hSi] at this;cases this
    have hji:=(hr.after j q hj e he).2
    rw [Xbw l es T0 S t _ fun k hk hs hb=>by
     by_cases hkj:k=j
     ·subst hkj;rw [hSj] at hs;cases hs
     ·exact huniq k hkj hb,Xbw l es T0 (fun _=>true) t _ fun k hk hs=>huniq k (by omega)]
  ·have hn:∀k:Nat,(l[k]?).bind (·.dst)≠some t:=fun k hb=>by
    obtain ⟨q',hk',hq'⟩:=Xdu hb
    exact hw ⟨k,q',hk',hq'⟩
   rw [Xbw _ _ _ _ _ _ fun k _ _=>hn k,Xbw _ _ _ _ _ _ fun k _ _=>hn k]
 ·have h1:(XcB l es T0 S l.length).length≤t:=by rw [Xco];omega
  have h2:(Xed l es T0 i).length≤t:=by rw [←Xd3 l es T0 (fun _=>true) i fun _ _=>rfl,Xco];omega
  rw [List.getElem?_eq_none h1,List.getElem?_eq_none h2]
theorem Xgw {l:List Oper} (hr:XlQ l) (es:Nat→AV) (T0:List AV) (S S':Nat→Bool) (i:Nat) (o:Oper) (hi:l[i]?=some o) (hSi:S i=false) (h1:S' i=true) (h2:∀j,j≠i→S' j=S j) :
  Xa9 (XcB l es T0 S l.length) o.dst (es i)=XcB l es T0 S' l.length:=by
 apply List.ext_getElem?
 intro t
 have hil:=(List.getElem?_eq_some_iff.1 hi).1
 by_cases hlt:t < T0.length
 ·by_cases hot:o.dst=some t
  ·have huniq:∀k,k≠i→(l[k]?).bind (·.dst)≠some t:=fun k hk hb=>by
    obtain ⟨q',hk',hq'⟩:=Xdu hb
    exact hk (hr.one k i q' o t hk' hi hq' hot)
   rw [hot,Xkg (by rw [Xco];exact hlt),Xc7 l es T0 S' t hlt i h1 (by rw [hi];exact hot) huniq _ hil]
  ·rw [Xkh hot]
   by_cases hw:∃(j:Nat) (q:Oper),l[j]?=some q∧q.dst=some t
   ·obtain ⟨j,q,hj,hq⟩:=hw
    have hjl:=(List.getElem?_eq_some_iff.1 hj).1
    have huniq:∀k,k≠j→(l[k]?).bind (·.dst)≠some t:=fun k hk hb=>by
     obtain ⟨q',hk',hq'⟩:=Xdu hb
     exact hk (hr.one k j q' q t hk' hj hq' hq)
    have hdj:(l[j]?).bind (·.dst)=some t:=by rw [hj];exact hq
    have hji:j≠i:=fun e=>by subst e;rw [hi] at hj;cases hj;exact hot hq
    cases hs:S j with
    | true=>rw [Xc7 l es T0 S t hlt j hs hdj huniq _ hjl,Xc7 l es T0 S' t hlt j (by rw [h2 j hji];exact hs) hdj huniq _ hjl]
    | false=>
      rw [Xbw l es T0 S t _ fun k hk hks hb=>?_,Xbw l es T0 S' t _ fun k hk hks hb=>?_]
      ·by_cases hkj:k=j
       ·subst hkj;rw [h2 k hji,hs] at hks;cases hks
       ·exact huniq k hkj hb
      ·by_cases hkj:k=j
       ·subst hkj;rw [hs] at hks;cases hks
       ·exact huniq k hkj hb
   ·have hn:∀k:Nat,(l[k]?).bind (·.dst)≠some t:=fun k hb=>by
     obtain ⟨q',hk',hq'⟩:=Xdu hb
     exact hw ⟨k,q',hk',hq'⟩
    rw [Xbw _ _ _ _ _ _ fun k _ _=>hn k,Xbw _ _ _ _ _ _ fun k _ _=>hn k]
 ·rw [List.getElem?_eq_none (by rw [Xlk,Xco];omega),List.getElem?_eq_none (by rw [Xco];omega)]
theorem Xtt {T1 T2:List AV} {x:Operand} (h:∀t,x=.tmp t→T1[t]?=T2[t]?):ev T1 x=ev T2 x:=by
 cases x with
 | tmp t=>simp only [ev,List.getD,h t rfl]
 | _=>rfl
theorem Xg7 {id:Nat} {l:List Oper} (hm:P.follows .mixedOrders=true) (hc:Xkl l=true) (h:dr P H l.toArray l T fun T'=>Q .normal T' H):awp P (.region id l.toArray true) Q T H:=by
 have hr:=XhY hc
 obtain ⟨es,-,hE,hfin⟩:=Xtn (ops:=l.toArray) l T l 0 (fun _=>.top) rfl h
 refine Xgc hm fun Δ V O w0 a w rel=>?_
 have hfin':Q .normal (Xed l es T l.length) H:=hfin
 have key:∀(fuel:Nat) (listed:Array Bool) (a:Act) (w:World),listed.size=l.length →
   (∀j q,l[j]?=some q→listed.getD j false=true→∀e∈q.after,listed.getD e.on false=true)→cnt (fun j=>listed.getD j false) l.length≤fuel →
   Rel Δ V O w0 H (XcB l es T (fun j=>listed.getD j false) l.length) a w→wpAny P .any l.toArray (Xe9 Δ V O w0 Q) fuel listed a w:=by
  intro fuel
  induction fuel with
  | zero=>
    intro listed a w hsz hcl hcnt rel
    have hall:=XfQ _ _ (Nat.le_zero.1 hcnt)
    refine ⟨?_,_,H,rel,?_⟩
    ·unfold Region.ready
     rw [List.filter_eq_nil_iff]
     intro i hi
     simp only [List.size_toArray,List.mem_range] at hi
     have:=hall i hi
     have hi':i < listed.size:=by omega
     simp [Array.getD,hi'] at this ⊢
     simp [this]
    ·rw [Xd3 l es T _ _ hall];exact hfin'
  | succ fuel ih=>
    intro listed a w hsz hcl hcnt rel
    have hget:∀i,i < l.length→listed.getD i true=listed.getD i false:=fun i hi=>by
     have hi':i < listed.size:=by omega
     simp [Array.getD,hi']
    refine ⟨fun hnil=>?_,fun i hi=>?_⟩
    ·-- all are listed
     have hall:∀j,j < l.length→listed.getD j false=true:=by
      intro j
      induction j using Nat.strongRecOn with
      | _ j ihj=>
        intro hj
        cases hs:listed.getD j false with
        | true=>rfl
        | false=>
          exfalso
          unfold Region.ready at hnil
          rw [List.filter_eq_nil_iff] at hnil
          have:=hnil j (by simpa using hj)
          apply this
          have hlj:l[j]?=some l[j]:=by simp [hj]
          rw [hget j hj,hs]
          simp only [Bool.not_false,Bool.true_and,List.getElem?_toArray,hlj,Option.map_some,Option.getD_some]
          rw [Array.all_eq_true_iff_forall_mem]
          intro e he
          have h1:=hr.after j _ hlj e he
          rw [ihj e.on h1.2 (by omega)]
          simp
     exact ⟨_,H,rel,by rw [Xd3 l es T _ _ hall];exact hfin'⟩
    ·unfold Region.ready at hi
     rw [List.mem_filter] at hi
     obtain ⟨hil,hrd⟩:=hi
     simp only [List.size_toArray,List.mem_range] at hil
     have hli:l[i]?=some l[i]:=by simp [hil]
     rw [hget i hil] at hrd
     simp only [List.getElem?_toArray,hli,Option.map_some,Option.getD_some,Bool.and_eq_true,Bool.not_eq_true',Array.all_eq_true_iff_forall_mem] at hrd
     obtain ⟨hSi,haf⟩:=hrd
     have haf':∀e∈l[i].after,listed.getD e.on false=true:=fun e he=>by
      have h1:=haf e he
      have h2:=hr.after i _ hli e he
      simpa [h2.1] using h1
     generalize ho:l[i]=o at hli haf'
     have hlook:=Xoq hr es T (fun j=>listed.getD j false) hcl i o hli hSi haf'
     have hops:OK V H (ev (Xed l es T i)) o a w:=by
      have h0:=rel.oks o
      refine ⟨h0.hok,fun x hx=>?_,h0.vlt,h0.gw⟩
      have:=h0.ops x hx
      rw [Xtt (T2:=Xed l es T i) (fun t ht=>hlook t (List.mem_append_left _ (List.mem_filterMap.2 ⟨x,by simpa using hx,by rw [ht]⟩)))] at this
      exact this
     have hnext:∀w' a',Rel Δ V O w0 H (Xa9 (XcB l es T (fun j=>listed.getD j false) l.length) o.dst (es i)) a' w'→wpAny P .any l.toArray (Xe9 Δ V O w0 Q) fuel (listed.setIfInBounds i true) a' w':=by
      intro w' a' hrel
      have h1:(listed.setIfInBounds i true).getD i false=true:=by
       have:i < listed.size:=by omega
       simp [Array.getD,this]
      have h2:∀j,j≠i→(listed.setIfInBounds i true).getD j false=listed.getD j false:=fun j hj=>by
       simp only [Array.getD_eq_getD_getElem?]
       rw [Array.getElem?_setIfInBounds_ne (fun e=>hj e.symm)]
      refine ih _ _ _ (by simpa using hsz) (fun j q hj hs e he=>?_) ?_ ?_
      ·by_cases hji:j=i
       ·subst hji
        rw [hli] at hj;cases hj
        have h3:=(hr.after j _ hli e he).2
        rw [h2 _ (by omega)];exact haf' e he
       ·rw [h2 j hji] at hs
        have h3:=hcl j q hj hs e he
        by_cases hei:e.on=i
        ·rw [hei];exact h1
        ·rw [h2 _ hei];exact h3
      ·have:=XnJ (fun j=>listed.getD j false) (fun j=>(listed.setIfInBounds i true).getD j false) (fun j hj=>by
        by_cases hji:j=i
        ·subst hji;exact h1
        ·show (listed.setIfInBounds i true).getD j false=true
         rw [h2 j hji];exact hj) i hSi h1 l.length hil
       omega
      ·rw [←Xgw hr es T _ (fun j=>(listed.setIfInBounds i true).getD j false) i o hli hSi h1 h2];exact hrel
     unfold wpOp
     simp only [List.getElem?_toArray,hli]
     rcases hE i o (Nat.zero_le _) hli with ⟨hg,he⟩|⟨j,want,t,p,av,hg,hd,hp,he0,he⟩
     ·rw [if_pos (by simp [Region.wanted,hg])]
      exact .inl (he V a w _ _ hops fun v w' hE' hd=>hnext _ _ ((rel.quiet hE').put _ hd))
     ·have htl:t∈looks l o:=by
       refine List.mem_append_right _ ?_
       rw [hg]
       simp only [List.getElem?_toArray] at hd
       simp only [hd];simp
      have hgd:(XcB l es T (fun j=>listed.getD j false) l.length).getD t .top=(Xed l es T i).getD t .top:=by
       simp only [List.getD,hlook t htl]
      rw [XdR rel hg hd (by rw [hgd];exact hp)]
      cases hpb:p with
      | true=>
        rw [if_pos rfl]
        exact .inl (he hpb V a w _ _ hops.strip fun v w' hE' hd=>hnext _ _ ((rel.quiet hE').put _ (by rw [he0,Den];exact ⟨fun _=>hd,(fun h=>by rw [hpb] at h;cases h)⟩)))
      | false=>
        rw [if_neg (by simp)]
        exact hnext _ _ (rel.put _ (by rw [he0,Den];exact ⟨(fun h=>by rw [hpb] at h;cases h),fun _=>rfl⟩))
 have hrep:∀j,(Array.replicate l.length false).getD j false=false:=fun j=>by simp [Array.getD]
 refine key _ _ a w (by simp) (fun j q _ hs=>?_) ?_ ?_
 ·rw [List.size_toArray,hrep j] at hs;cases hs
 ·have:∀k,cnt (fun j=>(Array.replicate l.toArray.size false).getD j false) k≤k:=fun k=>by
   induction k with
   | zero=>simp [cnt]
   | succ k ih=>simp only [cnt];split<;>omega
  simpa using this l.length
 ·have:XcB l es T (fun j=>(Array.replicate l.toArray.size false).getD j false) l.length=T:=by
   have:∀k,XcB l es T (fun j=>(Array.replicate l.toArray.size false).getD j false) k=T:=fun k=>by
    induction k with
    | zero=>rfl
    | succ k ih=>simp only [XcB];rw [if_neg (by rw [List.size_toArray,hrep];simp)];exact ih
   exact this _
  rw [this];exact rel
end
end Go.Proofs.YtdlblokjfoggpaaGreatDoor
