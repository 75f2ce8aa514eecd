import Derived.Test.YtdlblokjfoggpaaGreatDoorW6
/- The walk's rules as lemmas whose premises are closed by tactics of their own. No program in sight. -/
set_option linter.unusedSimpArgs false
set_option linter.unusedVariables false
set_option maxRecDepth 100000
set_option maxHeartbeats 8000000
namespace Go.Proofs.YtdlblokjfoggpaaGreatDoor
open Go.RowKit
set_option linter.defProp false
class Wkx (g:Prop) (k:outParam Prop):Prop where go:k→g
theorem wx (v:Value):AV.val (.x v)=v:=rfl
def wgp:=And.intro (@Bool.and_eq_true) (And.intro (@Bool.not_eq_true') (@Bool.not_eq_true))
def wfr:=And.intro @frm.eq_1 (And.intro (@Xyv.{0}) (And.intro (@Xyw.{0}) (And.intro (@Xyp.{0,0}) (And.intro (@Xyq.{0,0}) (And.intro (@XyC.{0}) (@XyD.{0}))))))
def wtf:=And.intro (@Xys.{0}) (And.intro (@Xyp.{0,0}) (@Xyq.{0,0}))
section
variable {P:Program} {ops:Array Oper} {Q:Xb9} {rest l:List Oper} {o:Oper} {T T':List AV} {H H':List Hp} {fin:List AV→Prop} {K:List AV→List Hp→Prop} {x y:Code} {id id2:Nat} {av:AV}
instance:Wkx (awp P (.seq x y) Q T H) (awp P x (XbH (awp P y Q) Q) T H):=⟨XaH⟩
instance:Wkx (awp P (.region id l.toArray false) Q T H) (Xe8 P l.toArray Q l T H):=⟨Xal⟩
instance:Wkx (awp P (.block id x) Q T H) (awp P x (XaA id Q) T H):=⟨Xbp⟩
instance:Wkx (awp P .ret Q T H) (Q .ret T H):=⟨Xbj⟩
instance:Wkx (awp P .skip Q T H) (Q .normal T H):=⟨Xa4⟩
instance:Wkx (awp P (.exit id) Q T H) (Q (.exit id) T H):=⟨XdV⟩
instance:Wkx (Xe8 P ops Q [] T H) (Q .normal T H):=⟨Xat⟩
instance:Wkx (dr P H ops [] T fin) (fin T):=⟨XiI⟩
instance:Wkx (XbH K Q .normal T H) (K T H):=⟨Xac⟩
instance:Wkx (XbH K Q (.exit id) T H) (Q (.exit id) T H):=⟨XcU⟩
instance:Wkx (XbH K Q .ret T H) (Q .ret T H):=⟨XbB⟩
instance:Wkx (XbH K Q (.goto id) T H) (Q (.goto id) T H):=⟨XmQ⟩
instance:Wkx (XaA id Q (.exit id) T H) (Q .normal T H):=⟨Xcz⟩
instance:Wkx (XaA id Q .normal T H) (Q .normal T H):=⟨Xax⟩
instance:Wkx (XaA id Q .ret T H) (Q .ret T H):=⟨Xbs⟩
instance:Wkx (XaA id Q (.goto id2) T H) (Q (.goto id2) T H):=⟨XhL⟩
instance:Wkx (XbP id K Q .ret T H) (Q .ret T H):=⟨Xoj⟩
instance:Wkx (XbP id K Q (.goto id) T H) (K T H):=⟨Xmv⟩
instance:Wkx (awp P (.goto id) Q T H) (Q (.goto id) T H):=⟨Xqa⟩
theorem Xc4 (h:dr P H l.toArray l T fun T'=>Q .normal T' H) (hm:P.follows .mixedOrders=true:=by first|exact mixed|fail) (hc:Xkl l=true:=by first|decide +kernel|fail):awp P (.region id l.toArray true) Q T H:=Xg7 hm hc h
theorem Xyk (h:Q (.exit id2) T H) (hn:id2≠id:=by first|decide|fail):XaA id Q (.exit id2) T H:=XjY hn h
theorem Xaz {c:Operand} {b:Bool} {p q:Prop} (h1:p→awp P x Q T H) (h2:q→awp P y Q T H) (hc:Go.Proofs.YtdlblokjfoggpaaGreatDoor.ev T c=.x (.bool b):=by first|rfl|fail) (hp:(b=true)=p:=by first|((try simp only [whn]);rfl)|fail) (hq:(b=false)=q:=by first|((try simp only [whn]);rfl)|fail):awp P (.cond c x y) Q T H:=
 XaR b hc (fun h=>h1 (hp▸h)) (fun h=>h2 (hq▸h))
inductive Wkg (ops:Array Oper) (T:List AV) (o:Oper):(Operand→AV)→Prop→(AV→AV)→Prop
 | no (h:o.guard=none):Wkg ops T o (ev T) True (fun v=>v)
 | yes {j:Nat} {want:Bool} {t:Nat} {p:Bool} (hg:o.guard=some (j,want)) (hd:(ops[j]?).bind (·.dst)=some t) (hp:gdc want (T.getD t .top)=some p):Wkg ops T o (evs T) (p=true) (fun v=>.g p v)
class Wkl (g:Prop) (P:outParam Program) (ops:outParam (Array Oper)) (o:outParam Oper) (T:outParam (List AV)) (H:outParam (List Hp)) (k:outParam (List AV→Prop)) (u:outParam AV):Prop where
 go:∀{ρ:Operand→AV} {p:Prop} {f:AV→AV} {av:AV} {T':List AV},Wkg ops T o ρ p f→(p→Evl P o ρ H av)→Xa9 T o.dst (f av)=T'→k T'→g
 no:∀{j:Nat} {want:Bool} {t:Nat} {T':List AV},o.guard=some (j,want)→(ops[j]?).bind (·.dst)=some t→gdc want (T.getD t .top)=some false→Xa9 T o.dst u=T'→k T'→g
instance:Wkl (Xe8 P ops Q (o :: rest) T H) P ops o T H (fun T'=>Xe8 P ops Q rest T' H) (.x undef) where
 go:=by
  intro ρ p f av T' hg h hT hK
  cases hg with
  | no hg=>exact Xar hg av (h trivial) hT hK
  | yes hg hd hp=>exact Xeo _ av hg hd hp h hT hK
 no hg hd hp hT hK:=Xnr hg hd hp hT hK
instance:Wkl (dr P H ops (o :: rest) T fin) P ops o T H (fun T'=>dr P H ops rest T' fin) (.g false .top) where
 go:=by
  intro ρ p f av T' hg h hT hK
  cases hg with
  | no hg=>exact XnP hg av (h trivial) hT hK
  | yes hg hd hp=>exact Xxh _ av hg hd hp h hT hK
 no hg hd hp hT hK:=Xxi hg hd hp hT hK
theorem Xad {g:Prop} {k:List AV→Prop} {u:AV} [L:Wkl g P ops o T H k u] {ρ:Operand→AV} {p:Prop} {f:AV→AV} (hK:k T') (hg:Wkg ops T o ρ p f:=by first|exact .no rfl|exact .yes rfl rfl rfl|fail) (h:p→Evl P o ρ H av:=by first|((first|(refine fun (_:True)=>?_)|(intro hp;(try simp only [wgp] at hp);(try simp only [hp,wte]);(try simp only [whn] at hp)));(first|(apply Xag 0 rfl;(first|exact XaW _ rfl|exact Xbo _ rfl))|(apply Xag 1 rfl;(first|exact XcW _ _ _ rfl rfl|exact Xdj _ _ _ rfl rfl|exact Xem _ _ _ _ _ rfl rfl rfl rfl|exact Xf0 _ _ _ _ _ rfl rfl rfl rfl|exact XeC _ _ _ _ _ rfl rfl rfl rfl|exact Xf1 _ _ _ _ _ rfl rfl rfl rfl))|(apply Xag 2 rfl;(exact Xcd _ _ _ _ rfl rfl rfl))|(apply Xag 3 rfl;(exact Xen _ _ _ _ _ _ HEl.out rfl rfl))|(apply Xag 4 rfl;(exact Xbl _ rfl (by first|exact .inl ⟨_,rfl⟩|exact .inr ⟨_,rfl⟩)))|(apply Xag 5 rfl;(first|exact Xaq _ _ _ _ _ _ rfl rfl Xbc.out|exact XcE _ _ _ _ _ rfl rfl Xbc.out))|(apply Xag 6 rfl;(first|exact Xbg _ _ _ _ _ rfl rfl XaI.out (by first|exact Xyn rfl|(simp [wlq];first|done|omega)) (by first|exact Xyn rfl|(simp [wlq];first|done|omega))|exact XaK _ _ _ _ _ _ _ _ rfl rfl Xbt.out XaI.out (by first|exact Xyn rfl|(simp [wlq];first|done|omega)) (by first|exact Xyn rfl|(simp [wlq];first|done|omega))|exact XcF _ _ _ _ _ _ _ _ _ _ _ _ rfl rfl XfM.out XaI.out (by first|exact Xyn rfl|(simp [wlq];first|done|omega)) (by first|exact Xyn rfl|(simp [wlq];first|done|omega))))|(apply Xag 7 rfl;(first|exact Xbv _ _ _ _ _ _ _ _ _ _ rfl rfl rfl HEl.out rfl (by first|omega|assumption) (by simp;first|done|omega)|exact XbD _ _ _ _ _ _ _ _ _ _ _ _ rfl rfl rfl HEl.out rfl (by first|omega|assumption)))|(apply Xag 8 rfl;(exact Xam _ _ _ _ _ _ _ rfl rfl rfl (by kernel_rfl) rfl (by omega)))|(apply Xag 9 rfl;(first|exact Xcj _ _ _ _ _ _ _ rfl rfl (by kernel_rfl) (by first|exact .inl ⟨rfl,rfl⟩|exact .inr ⟨_,_,rfl,rfl⟩) (by first|exact .inl ⟨rfl,rfl⟩|exact .inr ⟨_,_,rfl,rfl⟩) (by omega) (by omega)|exact XcG _ _ _ _ _ _ _ _ _ _ rfl rfl HEl.out (by first|exact .inl ⟨rfl,rfl⟩|exact .inr ⟨_,_,rfl,rfl⟩) (by first|exact .inl ⟨rfl,rfl⟩|exact .inr ⟨_,_,rfl,rfl⟩) (by omega) (by omega)|exact Xci _ _ _ _ _ _ _ _ _ _ _ _ rfl rfl HEl.out (by first|exact .inl ⟨rfl,rfl⟩|exact .inr ⟨_,_,rfl,rfl⟩) (by first|exact .inl ⟨rfl,rfl⟩|exact .inr ⟨_,_,rfl,rfl⟩) (by omega) (by omega)))|(apply Xag 10 rfl;(exact XbS _ _ _ _ _ rfl HPl.out (by first|rfl|(simp;done)) rfl))|(apply XbI;(case hs=>(intro _ _ h;cases h));(case hx=>rfl);(case hrun=>(intro w;simp [wtb,AV.val,go_sem];(try go_bits);rfl)))|fail))|fail) (hT:Xa9 T o.dst (f av)=T':=by first|((try simp (disch:=first|assumption|omega) only [wtn,wtf,wx,Nat.reduceAdd,Nat.reduceMul,Nat.reduceSub,↓reduceIte,Nat.reduceEqDiff]);rfl)|fail):g:=L.go hg h hT hK
theorem XlL {g:Prop} {k:List AV→Prop} {u:AV} [L:Wkl g P ops o T H k u] {j:Nat} {want:Bool} {t:Nat} (hK:k T') (hg:o.guard=some (j,want):=by first|rfl|fail) (hd:(ops[j]?).bind (·.dst)=some t:=by first|rfl|fail) (hp:gdc want (T.getD t .top)=some false:=by first|rfl|fail) (hT:Xa9 T o.dst u=T':=by first|((try simp (disch:=first|assumption|omega) only [wtn,wtf,wx,Nat.reduceAdd,Nat.reduceMul,Nat.reduceSub,↓reduceIte,Nat.reduceEqDiff]);rfl)|fail):g:=L.no hg hd hp hT hK
/-! Operations that turn memory. -/
theorem Xb8 {e:TypeId} {z:Value} {T1:Nat→List AV} {H1:Nat→List Hp} (hK:∀b,K (T1 b) (H1 b)) (ho:o.op=.alloc e:=by first|rfl|fail) (hz:(P.info? e).bind (·.zero)=some z:=by first|exact XbT.out|fail) (h1:z.cells.toList.all (·.oneCell')=true:=by first|rfl|fail) (hT:∀b,Xa9 T o.dst (.x (.pointer (some ⟨b,0,none⟩)))=T1 b:=by intro b;first|((try simp (disch:=first|assumption|omega) only [wtn,wtf,wx,Nat.reduceAdd,Nat.reduceMul,Nat.reduceSub,↓reduceIte,Nat.reduceEqDiff]);rfl)|fail) (hH:∀b,Hp.box b (z.cells.toList.map .x) :: H=H1 b:=by intro b;first|((try simp (disch:=first|assumption|omega) only [wtn,wtf,wx,Nat.reduceAdd,Nat.reduceMul,Nat.reduceSub,↓reduceIte,Nat.reduceEqDiff]);rfl)|fail):Stp P o T H K:=
 Xbf e z ho hz h1 fun b=>by rw [hT,hH];exact hK b
theorem Xd9 {e:TypeId} {x:Operand} {T1:Nat→List AV} {H1:Nat→List Hp} (hK:∀b,K (T1 b) (H1 b)) (ho:o.op=.box e x:=by first|rfl|fail) (h1:(ev T x).cells.all AV.one=true:=by first|rfl|((try simp (disch:=first|assumption|omega) only [wtn,wtf,wx,Nat.reduceAdd,Nat.reduceMul,Nat.reduceSub,↓reduceIte,Nat.reduceEqDiff]);simp [won,Value.oneCell',wx];done)|fail) (hT:∀b,Xa9 T o.dst (.x (.pointer (some ⟨b,0,none⟩)))=T1 b:=by intro b;first|((try simp (disch:=first|assumption|omega) only [wtn,wtf,wx,Nat.reduceAdd,Nat.reduceMul,Nat.reduceSub,↓reduceIte,Nat.reduceEqDiff]);rfl)|fail) (hH:∀b,Hp.box b (ev T x).cells :: H=H1 b:=by intro b;first|((try simp (disch:=first|assumption|omega) only [wtn,wtf,wx,Nat.reduceAdd,Nat.reduceMul,Nat.reduceSub,↓reduceIte,Nat.reduceEqDiff]);rfl)|fail):Stp P o T H K:=
 Xfc e x ho h1 fun b=>by rw [hT,hH];exact hK b
theorem Xbh {i:Nat} {t:TypeId} {x y:Operand} {b off:Nat} {cells:List AV} (hK:K T' H') (ho:o.op=.store t x y:=by first|rfl|fail) (hx:ev T x=.x (.pointer (some ⟨b,off,none⟩)):=by first|rfl|fail) (hi:H[i]?=some (.box b cells):=by first|exact Xbt.out|fail) (ht:(P.info? t).map (·.size)=some (ev T y).cells.length:=by first|exact Xa1.out|fail) (h1:(ev T y).cells.all AV.one=true:=by first|rfl|((try simp (disch:=first|assumption|omega) only [wtn,wtf,wx,Nat.reduceAdd,Nat.reduceMul,Nat.reduceSub,↓reduceIte,Nat.reduceEqDiff]);simp [won,Value.oneCell',wx];done)|fail) (hn:off+(ev T y).cells.length≤cells.length:=by first|exact Xyn rfl|(simp [wlq];first|done|omega)|fail) (hT:Xa9 T o.dst (.x undef)=T':=by first|((try simp (disch:=first|assumption|omega) only [wtn,wtf,wx,Nat.reduceAdd,Nat.reduceMul,Nat.reduceSub,↓reduceIte,Nat.reduceEqDiff]);rfl)|fail) (hH:H.set i (.box b (spl cells off (ev T y).cells))=H':=by first|((try simp (disch:=first|assumption|omega) only [wtn,wtf,wx,Nat.reduceAdd,Nat.reduceMul,Nat.reduceSub,↓reduceIte,Nat.reduceEqDiff]);rfl)|fail):Stp P o T H K:=
 Xaw i t x y b off cells ho hx hi ht h1 hn (by rw [hT,hH];exact hK)
theorem Xg3 {i:Nat} {t:TypeId} {x y:Operand} {b off n cap:Nat} {e:TypeId} {size:Nat} {cells:List AV} (hK:K T' H') (ho:o.op=.store t x y:=by first|rfl|fail) (hx:ev T x=.x (.pointer (some ⟨b,off,none⟩)):=by first|rfl|fail) (hi:H[i]?=some (.row (some ⟨b,0,none⟩) n cap e size cells):=by first|exact XfM.out|fail) (ht:(P.info? t).map (·.size)=some (ev T y).cells.length:=by first|exact Xa1.out|fail) (h1:(ev T y).cells.all AV.one=true:=by first|rfl|((try simp (disch:=first|assumption|omega) only [wtn,wtf,wx,Nat.reduceAdd,Nat.reduceMul,Nat.reduceSub,↓reduceIte,Nat.reduceEqDiff]);simp [won,Value.oneCell',wx];done)|fail) (hn:off+(ev T y).cells.length≤cells.length:=by first|exact Xyn rfl|(simp [wlq];first|done|omega)|fail) (hT:Xa9 T o.dst (.x undef)=T':=by first|((try simp (disch:=first|assumption|omega) only [wtn,wtf,wx,Nat.reduceAdd,Nat.reduceMul,Nat.reduceSub,↓reduceIte,Nat.reduceEqDiff]);rfl)|fail) (hH:H.set i (.row (some ⟨b,0,none⟩) n cap e size (spl cells off (ev T y).cells))=H':=by first|((try simp (disch:=first|assumption|omega) only [wtn,wtf,wx,Nat.reduceAdd,Nat.reduceMul,Nat.reduceSub,↓reduceIte,Nat.reduceEqDiff]);rfl)|fail):Stp P o T H K:=
 Xhs i t x y b off n cap e size cells ho hx hi ht h1 hn (by rw [hT,hH];exact hK)
theorem Xfr {t e:TypeId} {len:Nat} {parts:Array (Nat × Operand)} {z:Value} {size bytes:Nat} {cells:List AV} {T1:Nat→List AV} {H1:Nat→List Hp} (hK:∀b,K (T1 b) (H1 b)) (ho:o.op=.buildSlice t len parts:=by first|rfl|fail) (hE:Xee P t e z size bytes:=by first|exact XbY.out|fail) (hone:(parts.toList.all fun p=>(ev T p.2).cells.all AV.one)=true:=by first|rfl|((try simp (disch:=first|assumption|omega) only [wtn,wtf,wx,Nat.reduceAdd,Nat.reduceMul,Nat.reduceSub,↓reduceIte,Nat.reduceEqDiff]);simp [won,Value.oneCell',wx];done)|fail) (hz1:z.cells.toList.all (·.oneCell')=true:=by first|rfl|fail) (hlen:len*size≤16777216:=by first|decide|fail)
  (hb:XfG (fun i=>some (i*size,size)) ((List.replicate len (z.cells.toList.map .x)).flatten) (parts.toList.map fun p=>(p.1,ev T p.2))=some cells:=by first|rfl|fail) (hT:∀b,Xa9 T o.dst (.x (.slice (some ⟨b,0,none⟩) len len))=T1 b:=by intro b;first|((try simp (disch:=first|assumption|omega) only [wtn,wtf,wx,Nat.reduceAdd,Nat.reduceMul,Nat.reduceSub,↓reduceIte,Nat.reduceEqDiff]);rfl)|fail) (hH:∀b,Hp.row (some ⟨b,0,none⟩) len len e size cells :: H=H1 b:=by intro b;first|((try simp (disch:=first|assumption|omega) only [wtn,wtf,wx,Nat.reduceAdd,Nat.reduceMul,Nat.reduceSub,↓reduceIte,Nat.reduceEqDiff]);rfl)|fail):Stp P o T H K:=
 Xbx t e len parts z size bytes cells ho hE hone hz1 hlen hb fun b=>by rw [hT,hH];exact hK b
theorem XfK {p:Nat} {s x:Operand} {t e:TypeId} {z:Value} {size bytes:Nat} {ad:Option Addr} {n cap m:Nat} {cells news:List AV} {T1:Option Addr→Nat→List AV} {H1:Option Addr→Nat→List Hp} (hK:∀ad cap,K (T1 ad cap) (H1 ad cap)) (ho:o.op=.call { callee:=.builtin .append,args:=#[s,x],argTypes:=#[t,t] }:=by first|rfl|fail) (hs:ev T s=.x (.slice ad n cap):=by first|rfl|fail) (hp:H[p]?=some (.row ad n cap e size cells):=by first|exact XfM.out|fail)
  (hx:Src (ev T) H x m news:=by first|exact Src.row _ rfl XfM.out|exact Src.sq rfl|fail) (hE:Xee P t e z size bytes:=by first|exact XbY.out|fail) (hl:news.length=m*size:=by first|rfl|(simp;first|done|omega)|fail) (hf:XsU (n+m) bytes:=by first|exact Xqs _ _ (by omega) (by decide)|fail) (hT:∀ad cap,Xa9 T o.dst (.x (.slice ad (n+m) cap))=T1 ad cap:=by intro ad cap;first|((try simp (disch:=first|assumption|omega) only [wtn,wtf,wx,Nat.reduceAdd,Nat.reduceMul,Nat.reduceSub,↓reduceIte,Nat.reduceEqDiff]);rfl)|fail) (hH:∀ad cap,H.set p (.row ad (n+m) cap e size (cells++news))=H1 ad cap:=by intro ad cap;first|((try simp (disch:=first|assumption|omega) only [wtn,wtf,wx,Nat.reduceAdd,Nat.reduceMul,Nat.reduceSub,↓reduceIte,Nat.reduceEqDiff]);rfl)|fail):Stp P o T H K:=
 Xcy p s x t e z size bytes ad n cap m cells news ho hs hp hx hE hl hf fun ad cap=>by rw [hT,hH];exact hK ad cap
theorem Xd5 (hK:K T' H) (h:Evl P o (ev T) H av:=by (first|(apply Xag 0 rfl;(first|exact XaW _ rfl|exact Xbo _ rfl))|(apply Xag 1 rfl;(first|exact XcW _ _ _ rfl rfl|exact Xdj _ _ _ rfl rfl|exact Xem _ _ _ _ _ rfl rfl rfl rfl|exact Xf0 _ _ _ _ _ rfl rfl rfl rfl|exact XeC _ _ _ _ _ rfl rfl rfl rfl|exact Xf1 _ _ _ _ _ rfl rfl rfl rfl))|(apply Xag 2 rfl;(exact Xcd _ _ _ _ rfl rfl rfl))|(apply Xag 3 rfl;(exact Xen _ _ _ _ _ _ HEl.out rfl rfl))|(apply Xag 4 rfl;(exact Xbl _ rfl (by first|exact .inl ⟨_,rfl⟩|exact .inr ⟨_,rfl⟩)))|(apply Xag 5 rfl;(first|exact Xaq _ _ _ _ _ _ rfl rfl Xbc.out|exact XcE _ _ _ _ _ rfl rfl Xbc.out))|(apply Xag 6 rfl;(first|exact Xbg _ _ _ _ _ rfl rfl XaI.out (by first|exact Xyn rfl|(simp [wlq];first|done|omega)) (by first|exact Xyn rfl|(simp [wlq];first|done|omega))|exact XaK _ _ _ _ _ _ _ _ rfl rfl Xbt.out XaI.out (by first|exact Xyn rfl|(simp [wlq];first|done|omega)) (by first|exact Xyn rfl|(simp [wlq];first|done|omega))|exact XcF _ _ _ _ _ _ _ _ _ _ _ _ rfl rfl XfM.out XaI.out (by first|exact Xyn rfl|(simp [wlq];first|done|omega)) (by first|exact Xyn rfl|(simp [wlq];first|done|omega))))|(apply Xag 7 rfl;(first|exact Xbv _ _ _ _ _ _ _ _ _ _ rfl rfl rfl HEl.out rfl (by first|omega|assumption) (by simp;first|done|omega)|exact XbD _ _ _ _ _ _ _ _ _ _ _ _ rfl rfl rfl HEl.out rfl (by first|omega|assumption)))|(apply Xag 8 rfl;(exact Xam _ _ _ _ _ _ _ rfl rfl rfl (by kernel_rfl) rfl (by omega)))|(apply Xag 9 rfl;(first|exact Xcj _ _ _ _ _ _ _ rfl rfl (by kernel_rfl) (by first|exact .inl ⟨rfl,rfl⟩|exact .inr ⟨_,_,rfl,rfl⟩) (by first|exact .inl ⟨rfl,rfl⟩|exact .inr ⟨_,_,rfl,rfl⟩) (by omega) (by omega)|exact XcG _ _ _ _ _ _ _ _ _ _ rfl rfl HEl.out (by first|exact .inl ⟨rfl,rfl⟩|exact .inr ⟨_,_,rfl,rfl⟩) (by first|exact .inl ⟨rfl,rfl⟩|exact .inr ⟨_,_,rfl,rfl⟩) (by omega) (by omega)|exact Xci _ _ _ _ _ _ _ _ _ _ _ _ rfl rfl HEl.out (by first|exact .inl ⟨rfl,rfl⟩|exact .inr ⟨_,_,rfl,rfl⟩) (by first|exact .inl ⟨rfl,rfl⟩|exact .inr ⟨_,_,rfl,rfl⟩) (by omega) (by omega)))|(apply Xag 10 rfl;(exact XbS _ _ _ _ _ rfl HPl.out (by first|rfl|(simp;done)) rfl))|(apply XbI;(case hs=>(intro _ _ h;cases h));(case hx=>rfl);(case hrun=>(intro w;simp [wtb,AV.val,go_sem];(try go_bits);rfl)))|fail)) (hT:Xa9 T o.dst (av)=T':=by first|((try simp (disch:=first|assumption|omega) only [wtn,wtf,wx,Nat.reduceAdd,Nat.reduceMul,Nat.reduceSub,↓reduceIte,Nat.reduceEqDiff]);rfl)|fail):Stp P o T H K:=Xbi av h (by rw [hT];exact hK)
theorem XaJ (h:K T' H') (hT:T=T':=by first|((try simp (disch:=first|assumption|omega) only [wtn,wtf,wx,Nat.reduceAdd,Nat.reduceMul,Nat.reduceSub,↓reduceIte,Nat.reduceEqDiff]);rfl)|fail) (hH:H=H':=by first|((try simp (disch:=first|assumption|omega) only [wtn,wtf,wx,Nat.reduceAdd,Nat.reduceMul,Nat.reduceSub,↓reduceIte,Nat.reduceEqDiff]);rfl)|fail):K T H:=hT▸hH▸h
end
/-! Calls, ends, regions that draw. -/
section
variable {P:Program} {ops:Array Oper} {Q:Xb9} {rest l:List Oper} {o:Oper} {T T':List AV} {H H' R:List Hp} {fin:List AV→Prop} {K:List AV→List Hp→Prop} {ρ:Operand→AV} {c:Operand} {args:Array Operand} {tys:Array TypeId} {fs cs:Array Value} {f:FuncId} {fn:Func} {avs:List AV} {fuel:Nat} {listed:Array Bool}
theorem vwc {D:List Hp} {v v':AV} {m m':List AV} (vw1:Vw D v v') (vw2:VwL D m m'):VwL D (v :: m) (v' :: m'):=.cons vw1 vw2
theorem Xbb {res:AV} (ho:o.op=.call { callee:=.value c,args:=args,argTypes:=tys }) (hc:ρ c=.x (.func (.func f) fs cs)) (hf:P.funcs[f]?=some fn) (hS:Xay P f [] (fs.toList.map .x++args.toList.map ρ++cs.toList.map .x) fun r H'=>r=res∧H'=[]) (hn:fn.name≠ "runtime.NumGoroutine":=by first|decide|fail) (hb:fn.body.isSome=true:=by first|rfl|fail):Evl P o ρ H res:=Xby f fn _ res ho hc hf hn hb (VwL.refl _ _) hS
theorem XdD {res:Value} (ho:o.op=.call { callee:=.value c,args:=args,argTypes:=tys }) (hc:ρ c=.x (.func (.func f) fs cs)) (hf:P.funcs[f]?=some fn) (hargs:VwL H (fs.toList.map .x++args.toList.map ρ++cs.toList.map .x) avs:=by first|((repeat (first|exact VwL.nil|exact Vw.refl _|apply vwc|exact Vw.nil|exact Vw.row (List.Mem.head _) (VwL.refl _ _)|exact Vw.row (List.Mem.tail _ (List.Mem.head _)) (VwL.refl _ _)|exact Vw.row (List.Mem.tail _ (List.Mem.tail _ (List.Mem.head _))) (VwL.refl _ _)|exact Vw.row (List.Mem.tail _ (List.Mem.tail _ (List.Mem.tail _ (List.Mem.head _)))) (VwL.refl _ _)|exact Vw.row (List.Mem.tail _ (List.Mem.tail _ (List.Mem.tail _ (List.Mem.tail _ (List.Mem.head _))))) (VwL.refl _ _)|exact Vw.row (List.Mem.tail _ (List.Mem.tail _ (List.Mem.tail _ (List.Mem.tail _ (List.Mem.tail _ (List.Mem.head _)))))) (VwL.refl _ _)|exact Vw.row (List.Mem.tail _ (List.Mem.tail _ (List.Mem.tail _ (List.Mem.tail _ (List.Mem.tail _ (List.Mem.tail _ (List.Mem.head _))))))) (VwL.refl _ _)|exact Vw.row (List.Mem.tail _ (List.Mem.tail _ (List.Mem.tail _ (List.Mem.tail _ (List.Mem.tail _ (List.Mem.tail _ (List.Mem.tail _ (List.Mem.head _)))))))) (VwL.refl _ _)|exact Vw.row (List.Mem.tail _ (List.Mem.tail _ (List.Mem.tail _ (List.Mem.tail _ (List.Mem.tail _ (List.Mem.tail _ (List.Mem.tail _ (List.Mem.tail _ (List.Mem.head _))))))))) (VwL.refl _ _)|exact Vw.row (List.Mem.tail _ (List.Mem.tail _ (List.Mem.tail _ (List.Mem.tail _ (List.Mem.tail _ (List.Mem.tail _ (List.Mem.tail _ (List.Mem.tail _ (List.Mem.tail _ (List.Mem.head _)))))))))) (VwL.refl _ _)|exact Vw.box (List.Mem.head _) (VwL.refl _ _)|exact Vw.box (List.Mem.tail _ (List.Mem.head _)) (VwL.refl _ _)|exact Vw.box (List.Mem.tail _ (List.Mem.tail _ (List.Mem.head _))) (VwL.refl _ _)|exact Vw.box (List.Mem.tail _ (List.Mem.tail _ (List.Mem.tail _ (List.Mem.head _)))) (VwL.refl _ _)|exact Vw.box (List.Mem.tail _ (List.Mem.tail _ (List.Mem.tail _ (List.Mem.tail _ (List.Mem.head _))))) (VwL.refl _ _)|exact Vw.box (List.Mem.tail _ (List.Mem.tail _ (List.Mem.tail _ (List.Mem.tail _ (List.Mem.tail _ (List.Mem.head _)))))) (VwL.refl _ _)|exact Vw.box (List.Mem.tail _ (List.Mem.tail _ (List.Mem.tail _ (List.Mem.tail _ (List.Mem.tail _ (List.Mem.tail _ (List.Mem.head _))))))) (VwL.refl _ _)|exact Vw.box (List.Mem.tail _ (List.Mem.tail _ (List.Mem.tail _ (List.Mem.tail _ (List.Mem.tail _ (List.Mem.tail _ (List.Mem.tail _ (List.Mem.head _)))))))) (VwL.refl _ _)|exact Vw.box (List.Mem.tail _ (List.Mem.tail _ (List.Mem.tail _ (List.Mem.tail _ (List.Mem.tail _ (List.Mem.tail _ (List.Mem.tail _ (List.Mem.tail _ (List.Mem.head _))))))))) (VwL.refl _ _)|exact Vw.box (List.Mem.tail _ (List.Mem.tail _ (List.Mem.tail _ (List.Mem.tail _ (List.Mem.tail _ (List.Mem.tail _ (List.Mem.tail _ (List.Mem.tail _ (List.Mem.tail _ (List.Mem.head _)))))))))) (VwL.refl _ _)));done)|fail) (hS:Xay P f [] avs fun r H'=>r=.x res∧H'=[]) (hn:fn.name≠ "runtime.NumGoroutine":=by first|decide|fail) (hb:fn.body.isSome=true:=by first|rfl|fail):Evl P o ρ H (.x res):=Xb4 f fn avs res ho hc hf hn hb hargs hS
theorem Xa7 {C:AV→List Hp→Prop} (hf:P.funcs[f]?=some fn) (H1:List Hp) (ho:o.op=.call { callee:=.value c,args:=args,argTypes:=tys }) (hc:ev T c=.x (.func (.func f) fs cs)) (hp:H.Perm (H1++R)) (hS:Xay P f H1 (fs.toList.map .x++args.toList.map (ev T)++cs.toList.map .x) C) (hK:∀r H',C r H'→K (Xa9 T o.dst r) (H'++R)) (hn:fn.name≠ "runtime.NumGoroutine":=by first|decide|fail) (hb:fn.body.isSome=true:=by first|rfl|fail):Stp P o T H K:=Xau f fn H1 R _ C ho hc hf hn hb hp (VwL.refl _ _) hS hK
theorem XaV {n:Nat} {x:Code} {C:AV→List Hp→Prop} {A:List AV} (hf:P.funcs[f]?=some fn) (hn:fn.ntmps=n) (h:awp P x (Xdx P fn C) T H) (hb:fn.body=some x:=by first|rfl|fail) (hT:A++List.replicate (n - A.length) .top=T:=by first|(simp only [Xyr,Xyu,Xyv,Xyw,Xyz,Xyy,Nat.reduceAdd,Nat.reduceSub];rfl)|fail):Xay P f H A C:=Xcx hf hb (by rw [hn,hT];exact h)
theorem XaX {D:List Hp} (hT:VwL D T T':=by first|((repeat (first|exact VwL.nil|exact Vw.refl _|refine VwL.cons ?_ ?_|exact Vw.top _|exact Vw.nil|(refine Vw.eq ?_;first|rfl|(simp;done)|(congr 3;omega)|(congr 2;omega))));done)|fail) (hp:H.Perm (D++R):=by first|exact Xyo _|fail):Xaj H T R T':=Xaj.mk' D R hp (Xak.refl _ _) hT
theorem XcS {D:List Hp} (hT:VwL D T T':=by first|exact VwL.refl _ _|((repeat (first|exact VwL.nil|exact Vw.refl _|refine VwL.cons ?_ ?_|exact Vw.top _|exact Vw.nil|(refine Vw.eq ?_;first|rfl|(simp;done)|(congr 3;omega)|(congr 2;omega))));done)|fail) (hp:H.Perm (D++R):=by first|exact Xyo _|fail):Xaj H T R T':=Xaj.mk' D R hp (Xak.refl _ _) hT
theorem Xd8 (i:Nat) (h:Stp P o T H (Xfd P l.toArray Q fuel (listed.setIfInBounds i true))) (hr:Region.ready .any l.toArray listed=[i]:=by first|decide +kernel|fail) (hi:Xc3 l i=some o:=by first|rfl|fail) (hg:o.guard=none:=by first|rfl|fail):Xfd P l.toArray Q (fuel+1) listed T H:=XbN i hr hi hg h
theorem XfY (i:Nat) {av:AV} (hK:Xfd P l.toArray Q fuel (listed.setIfInBounds i true) T' H) (hi:Xc3 l i=some o:=by first|rfl|fail) (hg:o.guard=none:=by first|rfl|fail) (hc:Xel l.toArray listed i=true:=by first|kernel_rfl|fail) (hpan:∀c T H,¬Q (.panic c) T H:=by first|(intro c T H hp;simp [XbH,XaA,XbP,Xdx] at hp;done)|fail) (h:XeE P o (ev T) H av:=by (first|exact Xbq _ rfl|exact Xjn _ rfl|exact XdU _ _ _ rfl rfl|exact XbC _ _ _ _ _ _ rfl rfl Xbc.out|exact WInd_nil_at _ _ rfl rfl|exact WInd_index_str _ _ _ _ _ _ _ rfl rfl rfl (by kernel_rfl) rfl (by omega)|exact WInd_field_at _ _ _ _ _ rfl rfl Xbc.out|exact WInd_index_sq _ _ _ _ _ _ _ _ _ _ rfl rfl rfl HEl.out rfl (by first|omega|assumption) (by simp;first|done|omega)|exact Xdc _ _ _ _ _ _ _ _ _ _ _ _ rfl rfl rfl HEl.out rfl (by first|omega|assumption)|(apply Xiq;(case hs=>(intro _ _ h;cases h));(case hx=>rfl);(case hrun=>(intro w;simp [wtb,AV.val,go_sem];(try go_bits);rfl)))|fail)) (hT:Xa9 T o.dst (av)=T':=by first|((try simp (disch:=first|assumption|omega) only [wtn,wtf,wx,Nat.reduceAdd,Nat.reduceMul,Nat.reduceSub,↓reduceIte,Nat.reduceEqDiff]);rfl)|fail):Xfd P l.toArray Q (fuel+1) listed T H:=XbJ i hi hg hc hpan av h (by rw [hT];exact hK)
end
open Go.RowKit
section
variable {P:Program} {f:FuncId} {H:List Hp} {args:List AV}
theorem Xay.weak {Q Q2:AV→List Hp→Prop} (h:Xay P f H args Q) (hq:∀r H',Q r H'→∃r2 H2,Xaj H' [r] H2 [r2]∧Q2 r2 H2):Xay P f H args Q2:=fun V w vs h1 h2 h3 h4=>
 (h V w vs h1 h2 h3 h4).mono fun e w' ⟨r,H',v,q,he,hd,hok,hfr,hown⟩=>by
  obtain ⟨r2,H2,hw,q2⟩:=hq r H' q
  obtain ⟨k1,k2,k3⟩:=Xet (vs:=[v]) hok (by rw [DenL];exact ⟨v,[],rfl,hd,by rw [DenL]⟩) hw
  have k2':=k2.get' 0 r2 v rfl rfl
  exact ⟨r2,H2,v,q2,he,k2',k1,hfr,fun x hx k hk=>by
   obtain ⟨y,hy,e⟩:=k3 x hx k hk
   exact hown y hy k e⟩
end
theorem DenL.cons' {F:Nat→Prop} {W:World} {a:AV} {l:List AV} {v:Value} {vs:List Value} (h:Den F W a v) (k:DenL F W l vs):DenL F W (a :: l) (v :: vs):=by rw [DenL];exact ⟨v,vs,rfl,h,k⟩
theorem DenL.nil' {F:Nat→Prop} {W:World}:DenL F W [] []:=by rw [DenL]
theorem XnM {F:Nat→Prop} {W:World} (v:Value):Den F W (.x v) v:=by rw [Den]
theorem Xma (s:ByteArray):bs s.data.toList=s:=by cases s;simp [bs]
theorem Xtk {F:Nat→Prop} {W:World} (s:ByteArray):Den F W (.x (.string (bs s.data.toList))) (.string s):=by rw [Xma];exact XnM _
section
variable {P:Program} {o:Oper} {ρ:Operand→AV} {H:List Hp}
/-! Operations on memory that nobody writes, whose results hang on no memory. -/
theorem WInd_nil_at (x:Operand) (cells:List AV) (ho:o.op=.nilCheck x) (hx:ρ x=.at_ cells):XeE P o ρ H (.at_ cells):=fun V a w r=>by
 have hd:=r.ops x (by simp [ho,Op.operands])
 rw [hx] at hd
 have hd':=hd
 rw [Den] at hd
 obtain ⟨b,off,vals,hv,_⟩:=hd
 exact ⟨a.eval x,fun w'=>by rw [hv];simp [execOp,ho,hv],hd'⟩
theorem WInd_field_at (s:TypeId) (x:Operand) (f k:Nat) (cells:List AV) (ho:o.op=.fieldAddr s x f) (hx:ρ x=.at_ cells) (hk:XrX P s f=some k):XeE P o ρ H (.at_ (cells.drop k)):=fun V a w r=>by
 have hd:=r.ops x (by simp [ho,Op.operands])
 rw [hx,Den] at hd
 obtain ⟨b,off,vals,hv,hm,hl⟩:=hd
 exact ⟨.pointer (some ⟨b,off+k,none⟩),fun w'=>by simp [execOp,ho,hv,Xev s f k hk],by rw [Den];exact ⟨b,off+k,vals.drop k,rfl,hm.drop k,hl.drop k⟩⟩
theorem WInd_index_sq (t e:TypeId) (x y:Operand) (size n:Nat) (k:IntKind) (i:Int) (j:Nat) (cells:List AV) (ho:o.op=.indexAddr t x y) (hx:ρ x=.sq n cells) (hy:ρ y=.x (.int k i)) (ht:elT P t=some (e,size)) (hi:i=(j:Int)) (h1:j < n) (hc:0 < cells.length):XeE P o ρ H (.at_ (cells.drop (j*size))):=by
 subst hi
 intro V a w r
 have hd:=r.ops x (by simp [ho,Op.operands])
 rw [hx,Den] at hd
 obtain ⟨ad,cap,vals,hv,h2,h3,h4,hm,hl⟩:=hd
 have hm':=hm
 rcases hm with rfl|⟨b,off,rfl,hb,hcl⟩
 ·have:=hl.len;simp at this;omega
 ·refine ⟨.pointer (some ⟨b,off+j*size,none⟩),fun w'=>by simp [execOp,ho,hv,r.evx (x:=y) (by simp [ho,Op.operands]) hy,Xew t e size ht b off n cap k j (by omega) (by omega)],?_⟩
  rw [Den]
  exact ⟨b,_,vals.drop (j*size),rfl,hm'.drop (j*size),hl.drop (j*size)⟩
end
end Go.Proofs.YtdlblokjfoggpaaGreatDoor
