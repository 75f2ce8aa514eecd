import Derived.Test.YtdlblokjfoggpaaGreatDoorW7
import Derived.Test.YtdlblokjfoggpaaGreatDoorW9
import Derived.Test.YtdlblokjfoggpaaGreatDoorW0
/- The walk's rules as lemmas, the rest of them: regions that draw. No program in sight. -/
set_option linter.unusedSimpArgs false
set_option linter.unusedVariables false
set_option maxRecDepth 100000
set_option maxHeartbeats 8000000
namespace Go.Proofs.YtdlblokjfoggpaaGreatDoor
open Go.RowKit
set_option linter.defProp false
section
variable {P:Program} {ops:Array Oper} {Q:Xcl} {rest l:List Oper} {o:Oper} {T T':List AV} {H H' R:List Hp} {K:List AV→List Hp→Prop} {B:List Hp} {D L:List Nat} {fuel:Nat} {listed:Array Bool} {av:AV} {fin:List AV→List Hp→Prop} {i:Nat} {pi:List Nat}
theorem Xdd (i:Nat) (h:Stp P o T H (Xdy P l.toArray Q D B fuel (listed.setIfInBounds i true))) (hr:Region.ready .any l.toArray listed=[i]:=by first|decide +kernel|fail) (hi:XcM l i=some o:=by first|rfl|fail) (hg:o.guard=none:=by first|rfl|fail):Xdy P l.toArray Q D B (fuel+1) listed T H:=Xbk i hr hi hg h
theorem XlG (i:Nat) (h:Stp P o T H (XqE P l.toArray Q R fuel (listed.setIfInBounds i true))) (hr:Region.ready .any l.toArray listed=[i]:=by first|decide +kernel|fail) (hi:XcM l i=some o:=by first|rfl|fail) (hg:o.guard=none:=by first|rfl|fail):XqE P l.toArray Q R (fuel+1) listed T H:=XsA i hr hi hg h
theorem Xbj (i:Nat) {p:Nat} {t:TypeId} {x:Operand} {b off:Nat} {cells:List AV} {agg:Bool} {n:Nat} (hK:Xdy P l.toArray Q D B fuel (listed.setIfInBounds i true) T' H) (hi:XcM l i=some o:=by first|rfl|fail) (hg:o.guard=none:=by first|rfl|fail) (hc:XbY l.toArray listed i D=true:=by first|kernel_rfl|fail) (hpan:∀c T H,¬Q (.panic c) T H:=by first|(intro c T H hp;simp [Xbx,XaC,XbG,XcQ] at hp;done)|fail) (ho:o.op=.load t x:=by first|rfl|fail) (hx:ev T x=.x (.pointer (some ⟨b,off,none⟩)):=by first|rfl|fail) (hb:B[p]?=some (.box b cells):=by first|exact Xby.out|fail) (ht:Xhq P t=some (agg,n):=by first|exact XaR.out|fail) (hn:off+n≤cells.length:=by first|exact Xvs rfl|(simp [wlq];first|done|omega)|fail) (hn0:off < cells.length:=by first|exact Xvs rfl|(simp [wlq];first|done|omega)|fail) (hT:Xbd T o.dst (ldA agg n (cells.drop off))=T':=by first|((try simp (disch:=first|assumption|omega) only [wtn,wtf,wx,Nat.reduceAdd,Nat.reduceMul,Nat.reduceSub,↓reduceIte,Nat.reduceEqDiff]);rfl)|fail):Xdy P l.toArray Q D B (fuel+1) listed T H:=Xl5 i hi hg hc hpan p t x b off cells agg n ho hx hb ht hn hn0 (by rw [hT];exact hK)
theorem Xbt (i:Nat) (hK:Xdy P l.toArray Q D B fuel (listed.setIfInBounds i true) T' H) (hi:XcM l i=some o:=by first|rfl|fail) (hg:o.guard=none:=by first|rfl|fail) (hc:XbY l.toArray listed i D=true:=by first|kernel_rfl|fail) (hpan:∀c T H,¬Q (.panic c) T H:=by first|(intro c T H hp;simp [Xbx,XaC,XbG,XcQ] at hp;done)|fail) (h:XeR P o (ev T) (B++H) av:=by (first|exact Xbm _ rfl|exact Xcw _ rfl|exact XbM _ _ _ rfl rfl|exact XaT _ _ _ _ _ _ rfl rfl Xa1.out|exact WInd_nil_at _ _ rfl rfl|exact WInd_index_str _ _ _ _ _ _ _ rfl rfl rfl (by kernel_rfl) rfl (by omega)|exact WInd_field_at _ _ _ _ _ rfl rfl Xa1.out|exact WInd_index_sq _ _ _ _ _ _ _ _ _ _ rfl rfl rfl HEl.out rfl (by first|omega|assumption) (by simp;first|done|omega)|exact XaY _ _ _ _ _ _ _ _ _ _ _ _ rfl rfl rfl HEl.out rfl (by first|omega|assumption)|(apply XcW;(case hs=>(intro _ _ h;cases h));(case hx=>rfl);(case hrun=>(intro w;simp [wtb,AV.val,go_sem];(try go_bits);rfl)))|fail)) (hT:Xbd T o.dst (av)=T':=by first|((try simp (disch:=first|assumption|omega) only [wtn,wtf,wx,Nat.reduceAdd,Nat.reduceMul,Nat.reduceSub,↓reduceIte,Nat.reduceEqDiff]);rfl)|fail):Xdy P l.toArray Q D B (fuel+1) listed T H:=XhE i hi hg hc hpan av h (by rw [hT];exact hK)
theorem XiQ (hK:dm P B l L pi T' H fin) (hi:XcM l i=some o:=by first|rfl|fail) (hL:L.contains i=false:=by first|rfl|fail) (h:∀H1,Evl P o (ev T) (B++H1) av:=by intro H1;(try simp only [XvE,XvD]);(first|(apply Xad 0 rfl;(first|exact XaS _ rfl|exact Xa8 _ rfl))|(apply Xad 1 rfl;(first|exact Xb1 _ _ _ rfl rfl|exact Xcd _ _ _ rfl rfl|exact XcU _ _ _ _ _ rfl rfl rfl rfl|exact XdC _ _ _ _ _ rfl rfl rfl rfl|exact XcO _ _ _ _ _ rfl rfl rfl rfl|exact Xdo _ _ _ _ _ rfl rfl rfl rfl))|(apply Xad 2 rfl;(exact XbE _ _ _ _ rfl rfl rfl))|(apply Xad 3 rfl;(exact XcV _ _ _ _ _ _ HEl.out rfl rfl))|(apply Xad 4 rfl;(exact Xa3 _ rfl (by first|exact .inl ⟨_,rfl⟩|exact .inr ⟨_,rfl⟩)))|(apply Xad 5 rfl;(first|exact Xal _ _ _ _ _ _ rfl rfl Xa1.out|exact XbH _ _ _ _ _ rfl rfl Xa1.out))|(apply Xad 6 rfl;(first|exact XaW _ _ _ _ _ rfl rfl XaR.out (by first|exact Xvs rfl|(simp [wlq];first|done|omega)) (by first|exact Xvs rfl|(simp [wlq];first|done|omega))|exact XaN _ _ _ _ _ _ _ _ rfl rfl Xby.out XaR.out (by first|exact Xvs rfl|(simp [wlq];first|done|omega)) (by first|exact Xvs rfl|(simp [wlq];first|done|omega))|exact Xbp _ _ _ _ _ _ _ _ _ _ _ _ rfl rfl Xdp.out XaR.out (by first|exact Xvs rfl|(simp [wlq];first|done|omega)) (by first|exact Xvs rfl|(simp [wlq];first|done|omega))))|(apply Xad 7 rfl;(first|exact Xa2 _ _ _ _ _ _ _ _ _ _ rfl rfl rfl HEl.out rfl (by first|omega|assumption) (by simp;first|done|omega)|exact Xbo _ _ _ _ _ _ _ _ _ _ _ _ rfl rfl rfl HEl.out rfl (by first|omega|assumption)))|(apply Xad 8 rfl;(exact Xak _ _ _ _ _ _ _ rfl rfl rfl (by kernel_rfl) rfl (by omega)))|(apply Xad 9 rfl;(first|exact Xbv _ _ _ _ _ _ _ rfl rfl (by kernel_rfl) (by first|exact .inl ⟨rfl,rfl⟩|exact .inr ⟨_,_,rfl,rfl⟩) (by first|exact .inl ⟨rfl,rfl⟩|exact .inr ⟨_,_,rfl,rfl⟩) (by omega) (by omega)|exact XbI _ _ _ _ _ _ _ _ _ _ rfl rfl HEl.out (by first|exact .inl ⟨rfl,rfl⟩|exact .inr ⟨_,_,rfl,rfl⟩) (by first|exact .inl ⟨rfl,rfl⟩|exact .inr ⟨_,_,rfl,rfl⟩) (by omega) (by omega)|exact Xbu _ _ _ _ _ _ _ _ _ _ _ _ rfl rfl HEl.out (by first|exact .inl ⟨rfl,rfl⟩|exact .inr ⟨_,_,rfl,rfl⟩) (by first|exact .inl ⟨rfl,rfl⟩|exact .inr ⟨_,_,rfl,rfl⟩) (by omega) (by omega)))|(apply Xad 10 rfl;(exact XbD _ _ _ _ _ rfl HPl.out (by first|rfl|(simp;done)) rfl))|(apply XbB;(case hs=>(intro _ _ h;cases h));(case hx=>rfl);(case hrun=>(intro w;simp [wtb,AV.val,go_sem];(try go_bits);rfl)))|fail)) (hT:Xbd T o.dst (av)=T':=by first|((try simp (disch:=first|assumption|omega) only [wtn,wtf,wx,Nat.reduceAdd,Nat.reduceMul,Nat.reduceSub,↓reduceIte,Nat.reduceEqDiff]);rfl)|fail):dm P B l L (i :: pi) T H fin:=XdU hi hL av h hT hK
theorem Xmk (h:Stp P o (msk (looks l o) 0 T) H (fun T' H'=>∃e,T'=Xbd (msk (looks l o) 0 T) o.dst e∧dm P B l L pi (Xbd T o.dst e) H' fin)) (hi:XcM l i=some o:=by first|rfl|fail) (hL:L.contains i=true:=by first|rfl|fail):dm P B l L (i :: pi) T H fin:=XfU hi hL h
theorem XlA (h:dm P B l L pi T' H' fin) (hT:T=T':=by first|((try simp (disch:=first|assumption|omega) only [wtn,wtf,wx,Nat.reduceAdd,Nat.reduceMul,Nat.reduceSub,↓reduceIte,Nat.reduceEqDiff]);rfl)|fail) (hH:H=H':=by first|((try simp (disch:=first|assumption|omega) only [wtn,wtf,wx,Nat.reduceAdd,Nat.reduceMul,Nat.reduceSub,↓reduceIte,Nat.reduceEqDiff]);rfl)|fail):dm P B l L pi T H fin:=XiO hT hH h
theorem XlB {p:Nat} {s x:Operand} {t e:TypeId} {z:Value} {size bytes:Nat} {ad:Option Addr} {n cap m:Nat} {cells news:List AV} {T1:Option Addr→Nat→List AV} {H1:Option Addr→Nat→List Hp} (hK:∀ad cap,dm P B l L pi (T1 ad cap) (H1 ad cap) fin) (hi:XcM l i=some o:=by first|rfl|fail) (hL:L.contains i=true:=by first|rfl|fail) (ho:o.op=.call { callee:=.builtin .append,args:=#[s,x],argTypes:=#[t,t] }:=by first|rfl|fail) (hs:ev (msk (looks l o) 0 T) s=.x (.slice ad n cap):=by first|rfl|fail) (hp:H[p]?=some (.row ad n cap e size cells):=by first|exact Xdp.out|fail) (hx:Src (ev (msk (looks l o) 0 T)) H x m news:=by first|exact Src.row _ rfl Xdp.out|exact Src.sq rfl|fail) (hE:Xdx P t e z size bytes:=by first|exact XbJ.out|fail) (hl:news.length=m*size:=by first|rfl|(simp;first|done|omega)|fail) (hf:XpI (n+m) bytes:=by first|exact Xmv _ _ (by omega) (by decide)|fail) (hT:∀ad cap,Xbd T o.dst (.x (.slice ad (n+m) cap))=T1 ad cap:=by intro ad cap;first|((try simp (disch:=first|assumption|omega) only [wtn,wtf,wx,Nat.reduceAdd,Nat.reduceMul,Nat.reduceSub,↓reduceIte,Nat.reduceEqDiff]);rfl)|fail) (hH:∀ad cap,H.set p (.row ad (n+m) cap e size (cells++news))=H1 ad cap:=by intro ad cap;first|((try simp (disch:=first|assumption|omega) only [wtn,wtf,wx,Nat.reduceAdd,Nat.reduceMul,Nat.reduceSub,↓reduceIte,Nat.reduceEqDiff]);rfl)|fail):dm P B l L (i :: pi) T H fin:=XfU hi hL (XbN p s x t e z size bytes ad n cap m cells news ho hs hp hx hE hl hf fun ad cap=>⟨_,rfl,by rw [hT,hH];exact hK ad cap⟩)
theorem Xml {t e:TypeId} {len:Nat} {parts:Array (Nat × Operand)} {z:Value} {size bytes:Nat} {cells:List AV} {T1:Nat→List AV} {H1:Nat→List Hp} (hK:∀b,dm P B l L pi (T1 b) (H1 b) fin) (hi:XcM l i=some o:=by first|rfl|fail) (hL:L.contains i=true:=by first|rfl|fail) (ho:o.op=.buildSlice t len parts:=by first|rfl|fail) (hE:Xdx P t e z size bytes:=by first|exact XbJ.out|fail) (hone:(parts.toList.all fun p=>(ev (msk (looks l o) 0 T) p.2).cells.all AV.one)=true:=by first|rfl|((try simp (disch:=first|assumption|omega) only [wtn,wtf,wx,Nat.reduceAdd,Nat.reduceMul,Nat.reduceSub,↓reduceIte,Nat.reduceEqDiff]);simp [won,Value.oneCell',wx];done)|fail) (hz1:z.cells.toList.all (·.oneCell')=true:=by first|rfl|fail) (hlen:len*size≤16777216:=by first|decide|fail) (hb:Xfi (fun i=>some (i*size,size)) ((List.replicate len (z.cells.toList.map .x)).flatten) (parts.toList.map fun p=>(p.1,ev (msk (looks l o) 0 T) p.2))=some cells:=by first|rfl|fail) (hT:∀b,Xbd T o.dst (.x (.slice (some ⟨b,0,none⟩) len len))=T1 b:=by intro b;first|((try simp (disch:=first|assumption|omega) only [wtn,wtf,wx,Nat.reduceAdd,Nat.reduceMul,Nat.reduceSub,↓reduceIte,Nat.reduceEqDiff]);rfl)|fail) (hH:∀b,Hp.row (some ⟨b,0,none⟩) len len e size cells :: H=H1 b:=by intro b;first|((try simp (disch:=first|assumption|omega) only [wtn,wtf,wx,Nat.reduceAdd,Nat.reduceMul,Nat.reduceSub,↓reduceIte,Nat.reduceEqDiff]);rfl)|fail):dm P B l L (i :: pi) T H fin:=XfU hi hL (Xbe t e len parts z size bytes cells ho hE hone hz1 hlen hb fun b=>⟨_,rfl,by rw [hT,hH];exact hK b⟩)
theorem XfT {z:List AV} {k:Nat} (h:XfL P l.toArray Q k (Xde l.length D) T' H') (hT:T=T':=by first|((try simp (disch:=first|assumption|omega) only [wtn,wtf,wx,Nat.reduceAdd,Nat.reduceMul,Nat.reduceSub,↓reduceIte,Nat.reduceEqDiff]);rfl)|fail) (hH:B++H=H':=by first|((try simp only [XvE,XvD]);rfl)|fail):dm P B l L [] T H (Xn6 P B l D none z Q k):=Xea (by rw [hT,hH];exact h)
theorem XfS {d:Nat} {z:List AV} {k:Nat} {T1:Nat→List AV} {H1:Nat→List Hp} (h:∀b,XfL P l.toArray Q k (Xde l.length D) (T1 b) (H1 b)) (hd:(XcM l i).bind (·.dst)=some d:=by first|rfl|fail) (hT:∀b,T.set d (.x (.pointer (some ⟨b,0,none⟩)))=T1 b:=by intro b;first|((try simp (disch:=first|assumption|omega) only [wtn,wtf,wx,Nat.reduceAdd,Nat.reduceMul,Nat.reduceSub,↓reduceIte,Nat.reduceEqDiff]);rfl)|fail) (hH:∀b,B++(.box b z :: H)=H1 b:=by intro b;first|((try simp only [XvE,XvD]);rfl)|fail):dm P B l L [] T H (Xn6 P B l D (some i) z Q k):=XhM hd fun b=>by rw [hT,hH];exact h b
theorem Xus {B:List Hp} {l:List Oper} {L:List Nat} {i:Nat} {pi:List Nat} {fin:List AV→List Hp→Prop} (hK:dm P B l L pi T' H fin) (hi:XcM l i=some o:=by first|rfl|fail) (hL:L.contains i=false:=by first|rfl|fail) (h:∀H1,Evl P o (ev T) (B++H1) av:=by intro H1;(try simp only [XvE,XvD]);(first|(apply Xad 0 rfl;(first|exact XaS _ rfl|exact Xa8 _ rfl))|(apply Xad 1 rfl;(first|exact Xb1 _ _ _ rfl rfl|exact Xcd _ _ _ rfl rfl|exact XcU _ _ _ _ _ rfl rfl rfl rfl|exact XdC _ _ _ _ _ rfl rfl rfl rfl|exact XcO _ _ _ _ _ rfl rfl rfl rfl|exact Xdo _ _ _ _ _ rfl rfl rfl rfl))|(apply Xad 2 rfl;(exact XbE _ _ _ _ rfl rfl rfl))|(apply Xad 3 rfl;(exact XcV _ _ _ _ _ _ HEl.out rfl rfl))|(apply Xad 4 rfl;(exact Xa3 _ rfl (by first|exact .inl ⟨_,rfl⟩|exact .inr ⟨_,rfl⟩)))|(apply Xad 5 rfl;(first|exact Xal _ _ _ _ _ _ rfl rfl Xa1.out|exact XbH _ _ _ _ _ rfl rfl Xa1.out))|(apply Xad 6 rfl;(first|exact XaW _ _ _ _ _ rfl rfl XaR.out (by first|exact Xvs rfl|(simp [wlq];first|done|omega)) (by first|exact Xvs rfl|(simp [wlq];first|done|omega))|exact XaN _ _ _ _ _ _ _ _ rfl rfl Xby.out XaR.out (by first|exact Xvs rfl|(simp [wlq];first|done|omega)) (by first|exact Xvs rfl|(simp [wlq];first|done|omega))|exact Xbp _ _ _ _ _ _ _ _ _ _ _ _ rfl rfl Xdp.out XaR.out (by first|exact Xvs rfl|(simp [wlq];first|done|omega)) (by first|exact Xvs rfl|(simp [wlq];first|done|omega))))|(apply Xad 7 rfl;(first|exact Xa2 _ _ _ _ _ _ _ _ _ _ rfl rfl rfl HEl.out rfl (by first|omega|assumption) (by simp;first|done|omega)|exact Xbo _ _ _ _ _ _ _ _ _ _ _ _ rfl rfl rfl HEl.out rfl (by first|omega|assumption)))|(apply Xad 8 rfl;(exact Xak _ _ _ _ _ _ _ rfl rfl rfl (by kernel_rfl) rfl (by omega)))|(apply Xad 9 rfl;(first|exact Xbv _ _ _ _ _ _ _ rfl rfl (by kernel_rfl) (by first|exact .inl ⟨rfl,rfl⟩|exact .inr ⟨_,_,rfl,rfl⟩) (by first|exact .inl ⟨rfl,rfl⟩|exact .inr ⟨_,_,rfl,rfl⟩) (by omega) (by omega)|exact XbI _ _ _ _ _ _ _ _ _ _ rfl rfl HEl.out (by first|exact .inl ⟨rfl,rfl⟩|exact .inr ⟨_,_,rfl,rfl⟩) (by first|exact .inl ⟨rfl,rfl⟩|exact .inr ⟨_,_,rfl,rfl⟩) (by omega) (by omega)|exact Xbu _ _ _ _ _ _ _ _ _ _ _ _ rfl rfl HEl.out (by first|exact .inl ⟨rfl,rfl⟩|exact .inr ⟨_,_,rfl,rfl⟩) (by first|exact .inl ⟨rfl,rfl⟩|exact .inr ⟨_,_,rfl,rfl⟩) (by omega) (by omega)))|(apply Xad 10 rfl;(exact Xgx _ _ _ _ rfl HPl.out (by decide) rfl (by simp [wtb,AV.one,Value.oneCell'])))|(apply XbB;(case hs=>(intro _ _ h;cases h));(case hx=>rfl);(case hrun=>(intro w;simp [wtb,AV.val,go_sem];(try go_bits);rfl)))|fail)) (hT:Xbd T o.dst (av)=T':=by first|((try simp (disch:=first|assumption|omega) only [wtn,wtf,wx,Nat.reduceAdd,Nat.reduceMul,Nat.reduceSub,↓reduceIte,Nat.reduceEqDiff]);rfl)|fail):dm P B l L (i :: pi) T H fin:=XdU hi hL av h hT hK
theorem Xlw {g:Prop} {k:List AV→Prop} {u:AV} [L:Wkl g P ops o T H k u] {ρ:Operand→AV} {p:Prop} {f:AV→AV} (hK:k T') (hg:Wkg ops T o ρ p f:=by first|exact .no rfl|exact .yes rfl rfl rfl|fail) (h:p→Evl P o ρ H av:=by first|((first|(refine fun (_:True)=>?_)|(intro hp;(try simp only [wgp] at hp);(try simp only [hp,wte]);(try simp only [whn] at hp)));(first|(apply Xad 0 rfl;(first|exact XaS _ rfl|exact Xa8 _ rfl))|(apply Xad 1 rfl;(first|exact Xb1 _ _ _ rfl rfl|exact Xcd _ _ _ rfl rfl|exact XcU _ _ _ _ _ rfl rfl rfl rfl|exact XdC _ _ _ _ _ rfl rfl rfl rfl|exact XcO _ _ _ _ _ rfl rfl rfl rfl|exact Xdo _ _ _ _ _ rfl rfl rfl rfl))|(apply Xad 2 rfl;(exact XbE _ _ _ _ rfl rfl rfl))|(apply Xad 3 rfl;(exact XcV _ _ _ _ _ _ HEl.out rfl rfl))|(apply Xad 4 rfl;(exact Xa3 _ rfl (by first|exact .inl ⟨_,rfl⟩|exact .inr ⟨_,rfl⟩)))|(apply Xad 5 rfl;(first|exact Xal _ _ _ _ _ _ rfl rfl Xa1.out|exact XbH _ _ _ _ _ rfl rfl Xa1.out))|(apply Xad 6 rfl;(first|exact XaW _ _ _ _ _ rfl rfl XaR.out (by first|exact Xvs rfl|(simp [wlq];first|done|omega)) (by first|exact Xvs rfl|(simp [wlq];first|done|omega))|exact XaN _ _ _ _ _ _ _ _ rfl rfl Xby.out XaR.out (by first|exact Xvs rfl|(simp [wlq];first|done|omega)) (by first|exact Xvs rfl|(simp [wlq];first|done|omega))|exact Xbp _ _ _ _ _ _ _ _ _ _ _ _ rfl rfl Xdp.out XaR.out (by first|exact Xvs rfl|(simp [wlq];first|done|omega)) (by first|exact Xvs rfl|(simp [wlq];first|done|omega))))|(apply Xad 7 rfl;(first|exact Xa2 _ _ _ _ _ _ _ _ _ _ rfl rfl rfl HEl.out rfl (by first|omega|assumption) (by simp;first|done|omega)|exact Xbo _ _ _ _ _ _ _ _ _ _ _ _ rfl rfl rfl HEl.out rfl (by first|omega|assumption)))|(apply Xad 8 rfl;(exact Xak _ _ _ _ _ _ _ rfl rfl rfl (by kernel_rfl) rfl (by omega)))|(apply Xad 9 rfl;(first|exact Xbv _ _ _ _ _ _ _ rfl rfl (by kernel_rfl) (by first|exact .inl ⟨rfl,rfl⟩|exact .inr ⟨_,_,rfl,rfl⟩) (by first|exact .inl ⟨rfl,rfl⟩|exact .inr ⟨_,_,rfl,rfl⟩) (by omega) (by omega)|exact XbI _ _ _ _ _ _ _ _ _ _ rfl rfl HEl.out (by first|exact .inl ⟨rfl,rfl⟩|exact .inr ⟨_,_,rfl,rfl⟩) (by first|exact .inl ⟨rfl,rfl⟩|exact .inr ⟨_,_,rfl,rfl⟩) (by omega) (by omega)|exact Xbu _ _ _ _ _ _ _ _ _ _ _ _ rfl rfl HEl.out (by first|exact .inl ⟨rfl,rfl⟩|exact .inr ⟨_,_,rfl,rfl⟩) (by first|exact .inl ⟨rfl,rfl⟩|exact .inr ⟨_,_,rfl,rfl⟩) (by omega) (by omega)))|(apply Xad 10 rfl;(exact XbD _ _ _ _ _ rfl HPl.out (by first|rfl|(simp;done)) rfl))|(apply Xad 17 rfl;(exact XcT _ _ _ _ _ _ rfl XbJ.out rfl (by first|rfl|(simp [wtb,AV.one,Value.oneCell'];done)) rfl rfl (by decide)))|(apply XbB;(case hs=>(intro _ _ h;cases h));(case hx=>rfl);(case hrun=>(intro w;simp [wtb,AV.val,go_sem];(try go_bits);rfl)))|fail))|fail) (hT:Xbd T o.dst (f av)=T':=by first|((try simp (disch:=first|assumption|omega) only [wtn,wtf,wx,Nat.reduceAdd,Nat.reduceMul,Nat.reduceSub,↓reduceIte,Nat.reduceEqDiff]);rfl)|fail):g:=L.go hg h hT hK
theorem XsM {B:List Hp} {l:List Oper} {L:List Nat} {i:Nat} {pi:List Nat} {fin:List AV→List Hp→Prop} (hK:dm P B l L pi T' H fin) (hi:XcM l i=some o:=by first|rfl|fail) (hL:L.contains i=false:=by first|rfl|fail) (h:∀H1,Evl P o (ev T) (B++H1) av:=by intro H1;(try simp only [XvE,XvD]);(first|(apply Xad 0 rfl;(first|exact XaS _ rfl|exact Xa8 _ rfl))|(apply Xad 1 rfl;(first|exact Xb1 _ _ _ rfl rfl|exact Xcd _ _ _ rfl rfl|exact XcU _ _ _ _ _ rfl rfl rfl rfl|exact XdC _ _ _ _ _ rfl rfl rfl rfl|exact XcO _ _ _ _ _ rfl rfl rfl rfl|exact Xdo _ _ _ _ _ rfl rfl rfl rfl))|(apply Xad 2 rfl;(exact XbE _ _ _ _ rfl rfl rfl))|(apply Xad 3 rfl;(exact XcV _ _ _ _ _ _ HEl.out rfl rfl))|(apply Xad 4 rfl;(exact Xa3 _ rfl (by first|exact .inl ⟨_,rfl⟩|exact .inr ⟨_,rfl⟩)))|(apply Xad 5 rfl;(first|exact Xal _ _ _ _ _ _ rfl rfl Xa1.out|exact XbH _ _ _ _ _ rfl rfl Xa1.out))|(apply Xad 6 rfl;(first|exact XaW _ _ _ _ _ rfl rfl XaR.out (by first|exact Xvs rfl|(simp [wlq];first|done|omega)) (by first|exact Xvs rfl|(simp [wlq];first|done|omega))|exact XaN _ _ _ _ _ _ _ _ rfl rfl Xby.out XaR.out (by first|exact Xvs rfl|(simp [wlq];first|done|omega)) (by first|exact Xvs rfl|(simp [wlq];first|done|omega))|exact Xbp _ _ _ _ _ _ _ _ _ _ _ _ rfl rfl Xdp.out XaR.out (by first|exact Xvs rfl|(simp [wlq];first|done|omega)) (by first|exact Xvs rfl|(simp [wlq];first|done|omega))))|(apply Xad 7 rfl;(first|exact Xa2 _ _ _ _ _ _ _ _ _ _ rfl rfl rfl HEl.out rfl (by first|omega|assumption) (by simp;first|done|omega)|exact Xbo _ _ _ _ _ _ _ _ _ _ _ _ rfl rfl rfl HEl.out rfl (by first|omega|assumption)))|(apply Xad 8 rfl;(exact Xak _ _ _ _ _ _ _ rfl rfl rfl (by kernel_rfl) rfl (by omega)))|(apply Xad 9 rfl;(first|exact Xbv _ _ _ _ _ _ _ rfl rfl (by kernel_rfl) (by first|exact .inl ⟨rfl,rfl⟩|exact .inr ⟨_,_,rfl,rfl⟩) (by first|exact .inl ⟨rfl,rfl⟩|exact .inr ⟨_,_,rfl,rfl⟩) (by omega) (by omega)|exact XbI _ _ _ _ _ _ _ _ _ _ rfl rfl HEl.out (by first|exact .inl ⟨rfl,rfl⟩|exact .inr ⟨_,_,rfl,rfl⟩) (by first|exact .inl ⟨rfl,rfl⟩|exact .inr ⟨_,_,rfl,rfl⟩) (by omega) (by omega)|exact Xbu _ _ _ _ _ _ _ _ _ _ _ _ rfl rfl HEl.out (by first|exact .inl ⟨rfl,rfl⟩|exact .inr ⟨_,_,rfl,rfl⟩) (by first|exact .inl ⟨rfl,rfl⟩|exact .inr ⟨_,_,rfl,rfl⟩) (by omega) (by omega)))|(apply Xad 10 rfl;(exact XbD _ _ _ _ _ rfl HPl.out (by first|rfl|(simp;done)) rfl))|(apply Xad 17 rfl;(exact XcT _ _ _ _ _ _ rfl XbJ.out rfl (by first|rfl|(simp [wtb,AV.one,Value.oneCell'];done)) rfl rfl (by decide)))|(apply XbB;(case hs=>(intro _ _ h;cases h));(case hx=>rfl);(case hrun=>(intro w;simp [wtb,AV.val,go_sem];(try go_bits);rfl)))|fail)) (hT:Xbd T o.dst (av)=T':=by first|((try simp (disch:=first|assumption|omega) only [wtn,wtf,wx,Nat.reduceAdd,Nat.reduceMul,Nat.reduceSub,↓reduceIte,Nat.reduceEqDiff]);rfl)|fail):dm P B l L (i :: pi) T H fin:=XdU hi hL av h hT hK
theorem XtY {g:Prop} {k:List AV→Prop} {u:AV} [L:Wkl g P ops o T H k u] {ρ:Operand→AV} {p:Prop} {f:AV→AV} (hK:k T') (hg:Wkg ops T o ρ p f:=by first|exact .no rfl|exact .yes rfl rfl rfl|fail) (h:p→Evl P o ρ H av:=by first|((first|(refine fun (_:True)=>?_)|(intro hp;(try simp only [wgp] at hp);(try simp only [hp,wte]);(try simp only [whn] at hp)));(first|(apply Xad 0 rfl;(first|exact XaS _ rfl|exact Xa8 _ rfl))|(apply Xad 1 rfl;(first|exact Xb1 _ _ _ rfl rfl|exact Xcd _ _ _ rfl rfl|exact XcU _ _ _ _ _ rfl rfl rfl rfl|exact XdC _ _ _ _ _ rfl rfl rfl rfl|exact XcO _ _ _ _ _ rfl rfl rfl rfl|exact Xdo _ _ _ _ _ rfl rfl rfl rfl))|(apply Xad 2 rfl;(exact XbE _ _ _ _ rfl rfl rfl))|(apply Xad 3 rfl;(exact XcV _ _ _ _ _ _ HEl.out rfl rfl))|(apply Xad 4 rfl;(exact Xa3 _ rfl (by first|exact .inl ⟨_,rfl⟩|exact .inr ⟨_,rfl⟩)))|(apply Xad 5 rfl;(first|exact Xal _ _ _ _ _ _ rfl rfl Xa1.out|exact XbH _ _ _ _ _ rfl rfl Xa1.out))|(apply Xad 6 rfl;(first|exact XaW _ _ _ _ _ rfl rfl XaR.out (by first|exact Xvs rfl|(simp [wlq];first|done|omega)) (by first|exact Xvs rfl|(simp [wlq];first|done|omega))|exact XaN _ _ _ _ _ _ _ _ rfl rfl Xby.out XaR.out (by first|exact Xvs rfl|(simp [wlq];first|done|omega)) (by first|exact Xvs rfl|(simp [wlq];first|done|omega))|exact Xbp _ _ _ _ _ _ _ _ _ _ _ _ rfl rfl Xdp.out XaR.out (by first|exact Xvs rfl|(simp [wlq];first|done|omega)) (by first|exact Xvs rfl|(simp [wlq];first|done|omega))))|(apply Xad 7 rfl;(first|exact Xa2 _ _ _ _ _ _ _ _ _ _ rfl rfl rfl HEl.out rfl (by first|omega|assumption) (by simp;first|done|omega)|exact Xbo _ _ _ _ _ _ _ _ _ _ _ _ rfl rfl rfl HEl.out rfl (by first|omega|assumption)))|(apply Xad 8 rfl;(exact Xak _ _ _ _ _ _ _ rfl rfl rfl (by kernel_rfl) rfl (by omega)))|(apply Xad 9 rfl;(first|exact Xbv _ _ _ _ _ _ _ rfl rfl (by kernel_rfl) (by first|exact .inl ⟨rfl,rfl⟩|exact .inr ⟨_,_,rfl,rfl⟩) (by first|exact .inl ⟨rfl,rfl⟩|exact .inr ⟨_,_,rfl,rfl⟩) (by omega) (by omega)|exact XbI _ _ _ _ _ _ _ _ _ _ rfl rfl HEl.out (by first|exact .inl ⟨rfl,rfl⟩|exact .inr ⟨_,_,rfl,rfl⟩) (by first|exact .inl ⟨rfl,rfl⟩|exact .inr ⟨_,_,rfl,rfl⟩) (by omega) (by omega)|exact Xbu _ _ _ _ _ _ _ _ _ _ _ _ rfl rfl HEl.out (by first|exact .inl ⟨rfl,rfl⟩|exact .inr ⟨_,_,rfl,rfl⟩) (by first|exact .inl ⟨rfl,rfl⟩|exact .inr ⟨_,_,rfl,rfl⟩) (by omega) (by omega)))|(apply Xad 10 rfl;(exact XbD _ _ _ _ _ rfl HPl.out (by first|rfl|(simp;done)) rfl))|(apply Xad 17 rfl;(first|exact XcT _ _ _ _ _ _ rfl XbJ.out rfl (by first|rfl|(simp [wtb,AV.one,Value.oneCell'];done)) rfl rfl (by decide)|exact XfE _ _ _ _ _ _ _ _ rfl XbJ.out (by first|rfl|(simp [wtb,AV.cells,AV.one,Value.oneCell',Value.cells];done)) rfl (by decide) rfl))|(apply XbB;(case hs=>(intro _ _ h;cases h));(case hx=>rfl);(case hrun=>(intro w;simp [wtb,AV.val,go_sem];(try go_bits);rfl)))|fail))|fail) (hT:Xbd T o.dst (f av)=T':=by first|((try simp (disch:=first|assumption|omega) only [wtn,wtf,wx,Nat.reduceAdd,Nat.reduceMul,Nat.reduceSub,↓reduceIte,Nat.reduceEqDiff]);rfl)|fail):g:=L.go hg h hT hK
theorem XsN {B:List Hp} {l:List Oper} {L:List Nat} {i:Nat} {pi:List Nat} {fin:List AV→List Hp→Prop} (hK:dm P B l L pi T' H fin) (hi:XcM l i=some o:=by first|rfl|fail) (hL:L.contains i=false:=by first|rfl|fail) (h:∀H1,Evl P o (ev T) (B++H1) av:=by intro H1;(try simp only [XvE,XvD]);(first|(apply Xad 0 rfl;(first|exact XaS _ rfl|exact Xa8 _ rfl))|(apply Xad 1 rfl;(first|exact Xb1 _ _ _ rfl rfl|exact Xcd _ _ _ rfl rfl|exact XcU _ _ _ _ _ rfl rfl rfl rfl|exact XdC _ _ _ _ _ rfl rfl rfl rfl|exact XcO _ _ _ _ _ rfl rfl rfl rfl|exact Xdo _ _ _ _ _ rfl rfl rfl rfl))|(apply Xad 2 rfl;(exact XbE _ _ _ _ rfl rfl rfl))|(apply Xad 3 rfl;(exact XcV _ _ _ _ _ _ HEl.out rfl rfl))|(apply Xad 4 rfl;(exact Xa3 _ rfl (by first|exact .inl ⟨_,rfl⟩|exact .inr ⟨_,rfl⟩)))|(apply Xad 5 rfl;(first|exact Xal _ _ _ _ _ _ rfl rfl Xa1.out|exact XbH _ _ _ _ _ rfl rfl Xa1.out))|(apply Xad 6 rfl;(first|exact XaW _ _ _ _ _ rfl rfl XaR.out (by first|exact Xvs rfl|(simp [wlq];first|done|omega)) (by first|exact Xvs rfl|(simp [wlq];first|done|omega))|exact XaN _ _ _ _ _ _ _ _ rfl rfl Xby.out XaR.out (by first|exact Xvs rfl|(simp [wlq];first|done|omega)) (by first|exact Xvs rfl|(simp [wlq];first|done|omega))|exact Xbp _ _ _ _ _ _ _ _ _ _ _ _ rfl rfl Xdp.out XaR.out (by first|exact Xvs rfl|(simp [wlq];first|done|omega)) (by first|exact Xvs rfl|(simp [wlq];first|done|omega))))|(apply Xad 7 rfl;(first|exact Xa2 _ _ _ _ _ _ _ _ _ _ rfl rfl rfl HEl.out rfl (by first|omega|assumption) (by simp;first|done|omega)|exact Xbo _ _ _ _ _ _ _ _ _ _ _ _ rfl rfl rfl HEl.out rfl (by first|omega|assumption)))|(apply Xad 8 rfl;(exact Xak _ _ _ _ _ _ _ rfl rfl rfl (by kernel_rfl) rfl (by omega)))|(apply Xad 9 rfl;(first|exact Xbv _ _ _ _ _ _ _ rfl rfl (by kernel_rfl) (by first|exact .inl ⟨rfl,rfl⟩|exact .inr ⟨_,_,rfl,rfl⟩) (by first|exact .inl ⟨rfl,rfl⟩|exact .inr ⟨_,_,rfl,rfl⟩) (by omega) (by omega)|exact XbI _ _ _ _ _ _ _ _ _ _ rfl rfl HEl.out (by first|exact .inl ⟨rfl,rfl⟩|exact .inr ⟨_,_,rfl,rfl⟩) (by first|exact .inl ⟨rfl,rfl⟩|exact .inr ⟨_,_,rfl,rfl⟩) (by omega) (by omega)|exact Xbu _ _ _ _ _ _ _ _ _ _ _ _ rfl rfl HEl.out (by first|exact .inl ⟨rfl,rfl⟩|exact .inr ⟨_,_,rfl,rfl⟩) (by first|exact .inl ⟨rfl,rfl⟩|exact .inr ⟨_,_,rfl,rfl⟩) (by omega) (by omega)))|(apply Xad 10 rfl;(exact XbD _ _ _ _ _ rfl HPl.out (by first|rfl|(simp;done)) rfl))|(apply Xad 17 rfl;(first|exact XcT _ _ _ _ _ _ rfl XbJ.out rfl (by first|rfl|(simp [wtb,AV.one,Value.oneCell'];done)) rfl rfl (by decide)|exact XfE _ _ _ _ _ _ _ _ rfl XbJ.out (by first|rfl|(simp [wtb,AV.cells,AV.one,Value.oneCell',Value.cells];done)) rfl (by decide) rfl))|(apply XbB;(case hs=>(intro _ _ h;cases h));(case hx=>rfl);(case hrun=>(intro w;simp [wtb,AV.val,go_sem];(try go_bits);rfl)))|fail)) (hT:Xbd T o.dst (av)=T':=by first|((try simp (disch:=first|assumption|omega) only [wtn,wtf,wx,Nat.reduceAdd,Nat.reduceMul,Nat.reduceSub,↓reduceIte,Nat.reduceEqDiff]);rfl)|fail):dm P B l L (i :: pi) T H fin:=XdU hi hL av h hT hK
end
structure Nd where
 kind:Nat
 left:Nat:=0
 right:Nat:=0
 set:Nat:=0
 deriving Inhabited,DecidableEq
structure RS where
 at_:Nat
 opn:Nat
 ns:List Nd
structure RxR where
 v:Nat
 c:Nat
 p:RS
def chr (s:List UInt8) (k:Nat):Nat:=(s.getD k 0).toNat
def XcK (a b:Nat):Nat:=(List.range' a (b+1 - a)).foldl (fun n c=>n ||| 1 <<< c) 0
def XhL (n:Nat):Nat:=n ^^^ (2 ^ 256 - 1)
def Xuc (c:Nat):Bool:=(decide (33≤c) && decide (c≤47)) || (decide (58≤c) && decide (c≤64)) || (decide (91≤c) && decide (c≤96)) || (decide (123≤c) && decide (c≤126))
def XcS (s:List UInt8) (k:Nat):Int × Nat × Nat × Nat:=
 if k+1=s.length then (0,0,82,k) else
 if chr s (k+1)=100 then (-1,XcK 48 57,0,k+2) else
 if chr s (k+1)=119 then (-1,(XcK 65 90 ||| XcK 97 122) ||| (XcK 48 57 ||| XcK 95 95),0,k+2) else
 if chr s (k+1)=115 then (-1,(XcK 32 32 ||| XcK 9 9) ||| (XcK 13 13 ||| XcK 10 10),0,k+2) else
 if chr s (k+1)=110 then (10,XcK 10 10,0,k+2) else
 if chr s (k+1)=116 then (9,XcK 9 9,0,k+2) else
 if chr s (k+1)=114 then (13,XcK 13 13,0,k+2) else
 if Xuc (chr s (k+1)) then (chr s (k+1),XcK (chr s (k+1)) (chr s (k+1)),0,k+2) else (0,0,82,k+2)
def XcH (s:List UInt8) (k:Nat):Int × Nat × Nat × Nat:=
 if chr s k=93∨chr s k=94∨chr s k=45 then (0,0,80,k) else
 if chr s k=92 then XcS s k else (chr s k,XcK (chr s k) (chr s k),0,k+1)
def Xcj (s:List UInt8) (k:Nat):Nat × Nat × Nat:=
 let a:=XcH s k
 if a.2.2.1≠0∨a.1 < 0∨a.2.2.2=s.length∨chr s a.2.2.2≠45 then (a.2.1,a.2.2.1,a.2.2.2) else
 if a.2.2.2+1=s.length then (0,80,a.2.2.2+1) else
 let b:=XcH s (a.2.2.2+1)
 if b.2.2.1≠0 then (0,b.2.2.1,b.2.2.2) else
 if b.1 < a.1 then (0,80,b.2.2.2) else (XcK a.1.toNat b.1.toNat,0,b.2.2.2)
def Xeg (neg:Bool):Nat→List UInt8→Nat→Nat→Bool→Nat × Nat × Nat
 | 0,_,k,_,_=>(0,80,k)
 | n+1,s,k,set,some_=>
   if k=s.length then (0,80,k) else
   if chr s k=93∧some_=true then (if neg then XhL set else set,0,k+1) else
   let e:=Xcj s k
   if e.2.1≠0 then (0,e.2.1,e.2.2) else Xeg neg n s e.2.2 (set ||| e.1) true
def XbU (s:List UInt8) (k:Nat):Nat × Nat × Nat:=
 if k≠s.length∧chr s k=94 then Xeg true (s.length+1) s (k+1) 0 false else Xeg false (s.length+1) s k 0 false
def RS.add (p:RS) (n:Nd):RS:={ p with ns:=p.ns++[n] }
def RS.ok (p:RS) (n:Nd):RxR:=⟨p.ns.length,0,p.add n⟩
def Xeh:Nat→List UInt8→RS→Nat→RxR
 | 0,_,p,v=>⟨v,0,p⟩
 | n+1,s,p,v=>
   if p.at_=s.length then ⟨v,0,p⟩ else
   if chr s p.at_=42 then Xeh n s ({ p with at_:=p.at_+1 }.add { kind:=5,left:=v }) p.ns.length else
   if chr s p.at_=43 then Xeh n s ({ p with at_:=p.at_+1 }.add { kind:=6,left:=v }) p.ns.length else
   if chr s p.at_=63 then Xeh n s ({ p with at_:=p.at_+1 }.add { kind:=7,left:=v }) p.ns.length else ⟨v,0,p⟩
mutual
def XbS:Nat→List UInt8→RS→RxR
 | 0,_,p=>⟨0,99,p⟩
 | n+1,s,p=>
   let c:=chr s p.at_
   if c=42∨c=43∨c=63 then ⟨0,81,p⟩ else
   if c=93 then ⟨0,80,p⟩ else
   if c=40 then
    if p.opn=24 then ⟨0,84,p⟩ else
    let r:=rxPat n s { p with at_:=p.at_+1,opn:=p.opn+1 }
    if r.c≠0 then ⟨0,r.c,r.p⟩ else
    if r.p.at_=s.length then ⟨0,83,r.p⟩ else ⟨r.v,0,{ r.p with at_:=r.p.at_+1,opn:=r.p.opn - 1 }⟩
   else
   if c=91 then
    let k:=XbU s (p.at_+1)
    if k.2.1≠0 then ⟨0,k.2.1,{ p with at_:=k.2.2 }⟩ else ({ p with at_:=k.2.2 }:RS).ok { kind:=2,set:=k.1 }
   else
   if c=92 then
    let k:=XcS s p.at_
    if k.2.2.1≠0 then ⟨0,k.2.2.1,{ p with at_:=k.2.2.2 }⟩ else ({ p with at_:=k.2.2.2 }:RS).ok { kind:=2,set:=k.2.1 }
   else
   ({ p with at_:=p.at_+1 }:RS).ok (if c=94 then { kind:=8 } else if c=36 then { kind:=9 } else if c=46 then { kind:=2,set:=XhL (XcK 10 10) } else { kind:=2,set:=XcK c c })
def Xbl:Nat→List UInt8→RS→RxR
 | 0,_,p=>⟨0,99,p⟩
 | n+1,s,p=>
   let a:=XbS n s p
   if a.c≠0 then ⟨0,a.c,a.p⟩ else Xeh (s.length+1) s a.p a.v
def Xb4:Nat→List UInt8→RS→Option Nat→RxR
 | 0,_,p,_=>⟨0,99,p⟩
 | n+1,s,p,left=>
   if p.at_≠s.length∧chr s p.at_≠124∧chr s p.at_≠41 then
    let r:=Xbl n s p
    if r.c≠0 then ⟨0,r.c,r.p⟩ else
    match left with
    | none=>Xb4 n s r.p (some r.v)
    | some l=>Xb4 n s (r.p.add { kind:=3,left:=l,right:=r.v }) (some r.p.ns.length)
   else
    match left with
    | none=>p.ok { kind:=1 }
    | some l=>⟨l,0,p⟩
def Xfa:Nat→List UInt8→RxR→RxR
 | 0,_,r=>r
 | n+1,s,r=>
   if r.c=0∧r.p.at_≠s.length∧chr s r.p.at_=124 then
    let q:=Xb4 n s { r.p with at_:=r.p.at_+1 } none
    Xfa n s (if q.c=0 then (q.p.ok { kind:=4,left:=r.v,right:=q.v }) else ⟨r.v,q.c,q.p⟩)
   else r
def rxPat:Nat→List UInt8→RS→RxR
 | 0,_,p=>⟨0,99,p⟩
 | n+1,s,p=>Xfa n s (Xb4 n s p none)
end
def XdM (s:List UInt8):Except Nat (List Nd):=
 if 128 < s.length then .error 1 else
 let r:=rxPat (5*s.length+5) s ⟨0,0,[]⟩
 if r.c≠0 then .error r.c else
 if r.p.at_≠s.length then .error 83 else
 if 256 < r.p.ns.length then .error 1 else .ok r.p.ns
def Xc1 (k:Nat):Option Nat:=
 if k=1∨k=2∨k=8∨k=9 then some 0 else if k=5∨k=6∨k=7 then some 1 else if k=3∨k=4 then some 2 else none
def Xft (n:Nd) (i:Nat) (roots:List Nat):Option (List Nat):=
 if n.kind≠2∧n.set % 115792089237316195423570985008687907853269984665640564039457584007913129639936≠0 then none else
 match Xc1 n.kind with
 | none=>none
 | some c=>if roots.length < c then none else
   if n.left=(roots.drop (roots.length - c)).getD 0 0∧n.right=(roots.drop (roots.length - c)).getD 1 0 then some (roots.take (roots.length - c)++[i]) else none
def vGo:List Nd→Nat→List Nat→Option (List Nat)
 | [],_,roots=>some roots
 | n :: l,i,roots=>match Xft n i roots with
   | none=>none
   | some r=>vGo l (i+1) r
def Xc0 (l:List Nd):Bool:=decide (l.length≤256) && (match vGo l 0 [] with|none=>false|some r=>decide (r.length=1))
structure Sx where
 kind:Nat
 out:Nat:=0
 other:Nat:=0
 set:Nat:=0
 deriving Inhabited,DecidableEq
def bld:Nat→List Nd→List Sx→Nat→Nat→Nat × List Sx
 | 0,_,ss,_,next=>(next,ss)
 | n+1,l,ss,k,next=>
   let d:=l.getD k default
   if d.kind=2 then (ss.length,ss++[⟨1,next,0,d.set⟩]) else
   if d.kind=8 then (ss.length,ss++[⟨3,next,0,0⟩]) else
   if d.kind=9 then (ss.length,ss++[⟨4,next,0,0⟩]) else
   if d.kind=3 then bld n l (bld n l ss d.right next).2 d.left (bld n l ss d.right next).1 else
   if d.kind=4 then
    let a:=bld n l ss d.left next
    let b:=bld n l a.2 d.right next
    (b.2.length,b.2++[⟨2,a.1,b.1,0⟩]) else
   if d.kind=7 then
    let a:=bld n l ss d.left next
    (a.2.length,a.2++[⟨2,a.1,next,0⟩]) else
   if d.kind=5∨d.kind=6 then
    let a:=bld n l (ss++[⟨2,0,next,0⟩]) d.left ss.length
    (if d.kind=6 then a.1 else ss.length,a.2.set ss.length ⟨2,a.1,next,0⟩) else (next,ss)
def XeF (l:List Nd):List Sx:=
 let r:=bld l.length l [⟨2,0,0,0⟩,⟨5,0,0,0⟩] (l.length - 1) 1
 r.2.set 0 ⟨2,r.1,r.1,0⟩
def XlE (n:Nat) (s:Sx):Bool:=if s.kind=2 then decide (s.out < n) && decide (s.other < n) else if s.kind=1∨s.kind=3∨s.kind=4 then decide (s.out < n) else decide (s.kind=5)
def Xbw (l:List Sx):Bool:=decide (l.length≠0) && decide (l.length≤513) && l.all (XlE l.length)
structure Sp where
 st:Nat
 bol:Bool:=false
 eol:Bool:=false
 deriving Inhabited,DecidableEq
structure Og where
 from_:Sp:=⟨0,false,false⟩
 root:Bool:=false
 over:Bool:=false
 c:Nat:=0
 deriving Inhabited,DecidableEq
abbrev SnL:=List (Sp × Og)
def XaL (q:SnL × List Sp) (d:Sp) (o:Og):SnL × List Sp:=if q.1.any (fun x=>x.1 == d) then q else (q.1++[(d,o)],q.2++[d])
def Xdl (l:List Sx) (p:Sp) (q:SnL × List Sp):SnL × List Sp:=
 let s:=l.getD p.st default
 if s.kind=2 then XaL (XaL q ⟨s.out,p.bol,p.eol⟩ { from_:=p }) ⟨s.other,p.bol,p.eol⟩ { from_:=p } else
 if s.kind=3 then (if p.bol then XaL q ⟨s.out,p.bol,p.eol⟩ { from_:=p } else q) else
 if s.kind=4 then XaL q ⟨s.out,p.bol,true⟩ { from_:=p } else q
def XbF (l:List Sx):Nat→Nat→SnL × List Sp→SnL × List Sp
 | 0,_,q=>q
 | n+1,i,q=>if i < q.2.length then XbF l n (i+1) (Xdl l (q.2.getD i default) q) else q
def Xe8 (s:Nat):Option Nat:=(List.range 256).find? fun c=>c≠10 && s.testBit c
def Xc8 (l:List Sx) (p:Sp) (q:SnL × List Sp):SnL × List Sp:=
 let s:=l.getD p.st default
 if s.kind≠1 then q else
 let q1:=if s.set.testBit 10 then XaL q ⟨s.out,true,false⟩ { from_:=p,over:=true,c:=10 } else q
 match Xe8 s.set with
 | none=>q1
 | some c=>if p.eol then q1 else XaL q1 ⟨s.out,false,false⟩ { from_:=p,over:=true,c:=c }
def XcN (l:List Sx) (seen:SnL) (list:List Sp):SnL × List Sp:=list.foldl (fun q p=>Xc8 l p q) (seen,[])
def Xn7 (seen:SnL) (p:Sp):Og:=((seen.find? fun x=>x.1 == p).map (·.2)).getD {}
def Xcv (seen:SnL):Nat→Sp→List UInt8
 | 0,_=>[]
 | n+1,p=>let o:=Xn7 seen p;if o.root then [] else (if o.over then [UInt8.ofNat o.c] else [])++Xcv seen n o.from_
def XcZ (l:List Sx) (list:List Sp) (eol:Bool):Option Sp:=list.find? fun p=>(l.getD p.st default).kind == 5 && p.eol == eol
def Xts (l:List Sx):Nat→SnL→List Sp→Option (List UInt8)
 | 0,_,_=>none
 | n+1,seen,list=>
   if list=[] then none else
   let q:=XbF l (4*l.length+1) 0 (seen,list)
   match XcZ l q.2 false with
   | some p=>some (Xcv q.1 (4*l.length+1) p).reverse
   | none=>match XcZ l q.2 true with
     | some p=>some ((Xcv q.1 (4*l.length+1) p).reverse++[10])
     | none=>Xts l n (XcN l q.1 q.2).1 (XcN l q.1 q.2).2
def XcD (l:List Sx):Option (List UInt8):=
 if Xbw l=false then none else Xts l (4*l.length+1) [(⟨0,true,false⟩,{ root:=true })] [⟨0,true,false⟩]
end Go.Proofs.YtdlblokjfoggpaaGreatDoor
