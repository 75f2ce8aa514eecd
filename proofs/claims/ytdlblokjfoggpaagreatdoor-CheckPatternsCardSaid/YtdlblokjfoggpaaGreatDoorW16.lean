import Derived.Test.YtdlblokjfoggpaaGreatDoorW7
import Derived.Test.YtdlblokjfoggpaaGreatDoorW15
import Derived.Test.YtdlblokjfoggpaaGreatDoorW10
import Derived.Test.YtdlblokjfoggpaaGreatDoorW12
/- The search: spread. -/
set_option linter.unusedSimpArgs false
set_option linter.unusedVariables false
set_option maxRecDepth 100000
set_option maxHeartbeats 8000000
namespace Go.Proofs.YtdlblokjfoggpaaGreatDoor
open Go.RowKit
theorem XvG (sb mb pl ps pa:Nat) (l:List Sx) (q:SnL × List Sp) (ad:Option Addr) (cap:Nat) (p:Sp) (nx:Nat) (e:Bool) (hn:XfF l.length q.1) (hl:l.length≤1000) (hp:nx < l.length) (hq0:q.2.length≤1000000) :
  Xay Tryz.prog 54 [.box pl [.x (.slice ad q.2.length cap)],.box ps [.x (.pointer (some ⟨sb,0,none⟩))],.box pa [.x (.int .i64 p.st),.x (.bool p.bol),.x (.bool p.eol)],.box sb [.sq l.length (sxa l),.x (.map (some mb))],.map mb (snv q.1),.row ad q.2.length cap 86 3 (spa q.2)] [.x (.int .i64 nx),.x (.bool e),.x (.pointer (some ⟨ps,0,none⟩)),.x (.pointer (some ⟨pl,0,none⟩)),.x (.pointer (some ⟨pa,0,none⟩))]
  (fun r H'=>∃ad' cap',r=.x (.tuple #[])∧H'=[.box pl [.x (.slice ad' (XaB q ⟨nx,p.bol,e⟩ { from_:=p }).2.length cap')],.box ps [.x (.pointer (some ⟨sb,0,none⟩))],.box pa [.x (.int .i64 p.st),.x (.bool p.bol),.x (.bool p.eol)],.box sb [.sq l.length (sxa l),.x (.map (some mb))],.map mb (snv (XaB q ⟨nx,p.bol,e⟩ { from_:=p }).1),.row ad' (XaB q ⟨nx,p.bol,e⟩ { from_:=p }).2.length cap' 86 3 (spa (XaB q ⟨nx,p.bol,e⟩ { from_:=p }).2)]):=by
 obtain ⟨sn,list⟩:=q
 have h1:=Xo0 sb mb l sn list ad cap ⟨nx,p.bol,e⟩ { from_:=p } hn hl hp hq0
 generalize XaB (sn,list) ⟨nx,p.bol,e⟩ { from_:=p }=q' at *
 unfold Sp.val Og.val at h1
 have h1:=Lib.hid h1
 refine XaV Tryz.func54 Tryz.ntmps54 ?_
 (repeat' (first|refine Wkx.go ?_|refine Xad ?_|(refine Xab rfl ?_;(first|((refine Xa7 Tryz.func25 [_,_,_] rfl rfl (List.perm_append_comm (l₁:=[_,_,_]) (l₂:=[_,_,_])) h1.out ?_;rintro _ _ ⟨ad',cap',rfl,rfl⟩);refine XaJ ?_)|refine Xbh ?_))|fail))
 refine XbF _ _ (Xfa rfl (Xaj.mk' [] [.box pl _,.box ps _,.box pa _,.box sb _,.map mb _,.row _ _ _ _ _ _] (by (repeat' (first|exact Xyo _|refine (XyB (l₁:=[_,_,_])).trans (XyE _ ?_)|fail))) (Xak.refl _ _) VwL.nil)) ⟨ad',cap',rfl,rfl⟩
theorem Xe0 (q:SnL × List Sp) (d:Sp) (o:Og):q.2.length≤(XaB q d o).2.length:=by
 unfold XaB
 split
 ·exact Nat.le_refl _
 ·simp
theorem XrZ {l:List Sx} {p:Sp} (q:SnL × List Sp) (h:(l.getD p.st default).kind=2):XcJ l p q=XaB (XaB q ⟨(l.getD p.st default).out,p.bol,p.eol⟩ { from_:=p }) ⟨(l.getD p.st default).other,p.bol,p.eol⟩ { from_:=p }:=by
 unfold XcJ;simp only;rw [if_pos h]
theorem Xr0 {l:List Sx} {p:Sp} (q:SnL × List Sp) (h:(l.getD p.st default).kind=3):XcJ l p q=if p.bol then XaB q ⟨(l.getD p.st default).out,p.bol,p.eol⟩ { from_:=p } else q:=by
 unfold XcJ;simp only;rw [if_neg (by omega),if_pos h]
theorem Xr1 {l:List Sx} {p:Sp} (q:SnL × List Sp) (h:(l.getD p.st default).kind=4):XcJ l p q=XaB q ⟨(l.getD p.st default).out,p.bol,true⟩ { from_:=p }:=by
 unfold XcJ;simp only;rw [if_neg (by omega),if_neg (by omega),if_pos h]
theorem XrY {l:List Sx} {p:Sp} (q:SnL × List Sp) (h2:(l.getD p.st default).kind≠2) (h3:(l.getD p.st default).kind≠3) (h4:(l.getD p.st default).kind≠4):XcJ l p q=q:=by
 unfold XcJ;simp only;rw [if_neg h2,if_neg h3,if_neg h4]
theorem Xqu (l:List Sx) (p:Sp) (q:SnL × List Sp):q.2.length≤(XcJ l p q).2.length:=by
 by_cases h2:(l.getD p.st default).kind=2
 ·rw [XrZ q h2];exact Nat.le_trans (Xe0 _ _ _) (Xe0 _ _ _)
 by_cases h3:(l.getD p.st default).kind=3
 ·rw [Xr0 q h3]
  split
  ·exact Xe0 _ _ _
  ·exact Nat.le_refl _
 by_cases h4:(l.getD p.st default).kind=4
 ·rw [Xr1 q h4];exact Xe0 _ _ _
 ·rw [XrY q h2 h3 h4];exact Nat.le_refl _
theorem XcP.len {n:Nat} {sn:SnL} {list:List Sp} {q:SnL × List Sp} (h:XcP n sn list q) (hl:list.length≤sn.length):q.2.length≤4*n:=by
 have h1:=h.ok.len
 obtain ⟨t,e1,e2⟩:=h.ext
 rw [e1] at h1
 rw [e2]
 simp at h1 ⊢
 omega
structure SpI (l:List Sx) (sn:SnL) (list:List Sp) (Q:SnL × List Sp) (i:Nat) (q:SnL × List Sp):Prop where
 grow:XcP l.length sn list q
 le:i≤q.2.length
 eq:Xbe l (4*l.length+1 - i) i q=Q
theorem SpI.next {l:List Sx} (hv:Xa5 l=true) {sn:SnL} {list:List Sp} (hi:In sn list) (hl:list.length≤sn.length) {Q:SnL × List Sp} {i:Nat} {q:SnL × List Sp} (h:SpI l sn list Q i q) (hlt:i < q.2.length):SpI l sn list Q (i+1) (XcJ l q.2[i] q):=by
 have hlen:=h.grow.len hl
 have hg:q.2.getD i default=q.2[i]:=by rw [List.getD_eq_getElem?_getD,List.getElem?_eq_getElem hlt];rfl
 refine ⟨h.grow.from hv _ (h.grow.in_ hi _ (List.getElem_mem hlt)),?_,?_⟩
 ·have:=Xqu l q.2[i] q;omega
 ·have e:=h.eq
  rw [show 4*l.length+1 - i=(4*l.length+1 - (i+1))+1 by omega,Xbe,if_pos hlt,hg] at e
  exact e
theorem SpI.done {l:List Sx} {sn:SnL} {list:List Sp} {Q:SnL × List Sp} {i:Nat} {q:SnL × List Sp} (h:SpI l sn list Q i q) (hlt:¬i < q.2.length):q=Q:=by
 have e:=h.eq
 rw [XkA _ _ _ hlt] at e
 exact e
theorem SpI.start {l:List Sx} {sn:SnL} {list:List Sp} (h:XfF l.length sn):SpI l sn list (Xbe l (4*l.length+1) 0 (sn,list)) 0 (sn,list):=⟨XcP.refl h,Nat.zero_le _,rfl⟩
theorem XsB (l:List Sx) (k:Nat) (h:k < l.length):(sxa l).drop (k*7)=.x (.int .i64 (l.getD k default).kind) :: .x (.int .i64 (l.getD k default).out) :: .x (.int .i64 (l.getD k default).other) :: (w4 (l.getD k default).set++sxa (l.drop (k+1))):=by
 rw [Xia l k h,List.getD_eq_getElem?_getD,List.getElem?_eq_getElem h];rfl
theorem Xlt (l:List Sp) (k:Nat) (h:k < l.length):(spa l).drop (k*3)=.x (.int .i64 l[k].st) :: .x (.bool l[k].bol) :: .x (.bool l[k].eol) :: spa (l.drop (k+1)):=by
 rw [Xlu l k h];rfl
theorem Xrw (sb mb:Nat) (l:List Sx) (sn:SnL) (list:List Sp) (ad:Option Addr) (cap:Nat) (hv:Xa5 l=true) (hn:XfF l.length sn) (hl:l.length≤1000) (hin:In sn list) (hll:list.length≤sn.length) :
  Xay Tryz.prog 26 [.box sb [.sq l.length (sxa l),.x (.map (some mb))],.map mb (snv sn),.row ad list.length cap 86 3 (spa list)] [.x (.pointer (some ⟨sb,0,none⟩)),.x (.slice ad list.length cap)] (fun r H'=>∃ad' cap',r=.x (.slice ad' (Xbe l (4*l.length+1) 0 (sn,list)).2.length cap')∧H'=[.box sb [.sq l.length (sxa l),.x (.map (some mb))],.map mb (snv (Xbe l (4*l.length+1) 0 (sn,list)).1),.row ad' (Xbe l (4*l.length+1) 0 (sn,list)).2.length cap' 86 3 (spa (Xbe l (4*l.length+1) 0 (sn,list)).2)]):=by
 have hI:=SpI.start (list:=list) hn
 generalize Xbe l (4*l.length+1) 0 (sn,list)=Q at *
 refine XaV Tryz.func26 Tryz.ntmps26 ?_
 (repeat' (first|refine Wkx.go ?_|refine Xad ?_|(refine Xab rfl ?_;(refine Xd9 (fun b=>?_)))|fail))
 rename_i ps
 revert b;intro pl
 refine Xah (S:=Nat × (SnL × List Sp) × Option Addr × Nat) (fun s=>frm 61 [(2,.x (.pointer (some ⟨ps,0,none⟩))),(3,.x (.pointer (some ⟨pl,0,none⟩))),(5,.x (.int .i64 s.1))])
  (fun s=>[.box pl [.x (.slice s.2.2.1 s.2.1.2.length s.2.2.2)],.box ps [.x (.pointer (some ⟨sb,0,none⟩))],.box sb [.sq l.length (sxa l),.x (.map (some mb))],.map mb (snv s.2.1.1),.row s.2.2.1 s.2.1.2.length s.2.2.2 86 3 (spa s.2.1.2)]) (fun s=>SpI l sn list Q s.1 s.2.1) (fun s=>4*l.length+1 - s.1) (0,(sn,list),ad,cap) (XaX (D:=[])) hI fun s hs=>?_
 clear hI
 obtain ⟨i,q,ad,cap⟩:=s
 simp only at hs
 have hlen:=hs.grow.len hll
 simp only [wfr]
 by_cases hlt:i < q.2.length
 ·have hnx:=hs.next hv hin hll hlt
  have hpin:=hs.grow.in_ hin _ (List.getElem_mem hlt)
  have hd1:=Xlt q.2 i hlt
  generalize q.2[i]=p at hnx hpin hd1
  have hp:p.st < l.length:=by obtain ⟨y,hy,e⟩:=hpin;rw [←e];exact hs.grow.ok.st y hy
  have hd2:=XsB l p.st hp
  have F2:=XrZ (l:=l) (p:=p) q
  have F3:=Xr0 (l:=l) (p:=p) q
  have F4:=Xr1 (l:=l) (p:=p) q
  have F0:=XrY (l:=l) (p:=p) q
  have H2:=XsA (Xe6 hv hp)
  have H1:=Xjd (Xe6 hv hp)
  generalize l.getD p.st default=d at *
  have hsn:=hs.grow.ok
  have G:=fun (h:d.out < l.length)=>hs.grow.reach ⟨d.out,p.bol,p.eol⟩ { from_:=p } h hpin
  have hgr:=Lib.hid hs
  clear hs hpin
  have hd1:=Lib.hid hd1;have hd2:=Lib.hid hd2
  refine Xcl 4 rfl fun _ _ hd=>?_
  rcases hd with ⟨_,h0,_⟩|⟨g,rfl⟩
  ·omega
  have h2i:((d.kind:Nat):Int)=2→d.kind=2:=fun h=>by omega
  (have wx:=@hd1.out;(repeat' (first|refine Wkx.go ?_|(refine Xaz (fun h=>?_) (fun h=>?_)<;>first|(exfalso;omega;done)|skip)|refine Xad ?_|(refine Xab rfl ?_;(first|refine Xbh ?_|refine Xb8 (fun b=>?_)))|fail)))<;>(try clear wx)
  refine Xeq (B:=[_,_,_,_]) (R:=[_,_]) mixed [0,1,2,3,4,5,6,7] [] [9] (some 8) _ 1 (Xyo _) (by decide +kernel) rfl (XeU rfl rfl rfl XbT.out rfl rfl) (by decide) ?_
  (have wx:=And.intro @hd2.out @w4.eq_1;(repeat' (first|refine Xjh ?_|fail)))<;>(try clear wx)
  (first|(refine Xqo (fun b=>?_))|fail);(refine Xd8 9 ?_;(first|refine Xbh ?_|fail));refine Xao (by decide +kernel) ?_
  (repeat' (first|refine Wkx.go ?_|refine Xc4 ?_|refine Xyk ?_|(refine Xaz (fun h=>?_) (fun h=>?_)<;>first|skip|fail)|refine XlL ?_|refine Xad ?_|(refine Xab rfl ?_;(first|((refine Xa7 Tryz.func54 [_,_,_,_,_,_] rfl rfl (by (repeat' (first|exact Xyo _|refine XyE _ ?_|refine (XyB (l₁:=[_])).trans (XyE _ ?_)|fail))) (XvG _ _ _ _ _ l q _ _ p d.out _ hsn hl (by rcases (show d.kind=2∨d.kind=3∨d.kind=4 by omega) with h|h;exact (H2 h).1;exact H1 (.inr h)) (by omega)) ?_;rintro _ _ ⟨ad',cap',rfl,rfl⟩);refine XaJ ?_)|((refine Xa7 Tryz.func54 [_,_,_,_,_,_] rfl rfl (by (repeat' (first|exact Xyo _|fail))) (XvG _ _ _ _ _ l (XaB q ⟨d.out,p.bol,p.eol⟩ { from_:=p }) _ _ p d.other _ (G (H2 (by omega)).1).ok hl (H2 (by omega)).2 (by have:=(G (H2 (by omega)).1).len hll;omega)) ?_;rintro _ _ ⟨ad',cap',rfl,rfl⟩);refine XaJ ?_)|refine Xbh ?_|refine Xg3 ?_|refine XfK (fun ad cap=>?_)|refine Xd9 (fun b=>?_)|refine Xb8 (fun b=>?_)|refine Xfr (fun b=>?_)|fail))|fail))
  all_goals first
   | (rw [F2 (by omega)] at hnx;exact ⟨(i+1,_,_,_),(by show 4*l.length+1 - (i+1) < 4*l.length+1 - i;omega),hnx,(Xaj.mk' [.box _ [_,_,_],.box _ [_,_,_,_,_,_,_]] [.box pl _,.box ps _,.box sb _,.map mb _,.row _ _ _ _ _ _] (by (repeat' (first|exact Xyo _|refine (XyB (l₁:=[_,_])).trans (XyE _ ?_)|refine (XyB (l₁:=[_,_,_,_,_])).trans (XyE _ ?_)|fail))) (Xak.refl _ _) (by (repeat' (first|exact VwL.nil|(refine VwL.cons ?_ ?_)|exact Vw.refl _|exact Vw.top _|fail))))⟩)
   | (rw [F3 (by omega),if_pos (by assumption)] at hnx;exact ⟨(i+1,_,_,_),(by show 4*l.length+1 - (i+1) < 4*l.length+1 - i;omega),hnx,(Xaj.mk' [.box _ [_,_,_],.box _ [_,_,_,_,_,_,_]] [.box pl _,.box ps _,.box sb _,.map mb _,.row _ _ _ _ _ _] (by (repeat' (first|exact Xyo _|refine (XyB (l₁:=[_,_])).trans (XyE _ ?_)|refine (XyB (l₁:=[_,_,_,_,_])).trans (XyE _ ?_)|fail))) (Xak.refl _ _) (by (repeat' (first|exact VwL.nil|(refine VwL.cons ?_ ?_)|exact Vw.refl _|exact Vw.top _|fail))))⟩)
   | (rw [F3 (by omega),if_neg (by simp only [‹p.bol=false›];decide)] at hnx;exact ⟨(i+1,_,_,_),(by show 4*l.length+1 - (i+1) < 4*l.length+1 - i;omega),hnx,(Xaj.mk' [.box _ [_,_,_],.box _ [_,_,_,_,_,_,_]] [.box pl _,.box ps _,.box sb _,.map mb _,.row _ _ _ _ _ _] (by (repeat' (first|exact Xyo _|refine XyE _ ?_|refine (XyB (l₁:=[_,_,_])).trans (XyE _ ?_)|fail))) (Xak.refl _ _) (by (repeat' (first|exact VwL.nil|(refine VwL.cons ?_ ?_)|exact Vw.refl _|exact Vw.top _|fail))))⟩)
   | (rw [F4 (by omega)] at hnx;exact ⟨(i+1,_,_,_),(by show 4*l.length+1 - (i+1) < 4*l.length+1 - i;omega),hnx,(Xaj.mk' [.box _ [_,_,_],.box _ [_,_,_,_,_,_,_]] [.box pl _,.box ps _,.box sb _,.map mb _,.row _ _ _ _ _ _] (by (repeat' (first|exact Xyo _|refine (XyB (l₁:=[_,_])).trans (XyE _ ?_)|refine (XyB (l₁:=[_,_,_,_,_])).trans (XyE _ ?_)|fail))) (Xak.refl _ _) (by (repeat' (first|exact VwL.nil|(refine VwL.cons ?_ ?_)|exact Vw.refl _|exact Vw.top _|fail))))⟩)
   | (rw [F0 (by omega) (by omega) (by omega)] at hnx;exact ⟨(i+1,_,_,_),(by show 4*l.length+1 - (i+1) < 4*l.length+1 - i;omega),hnx,(Xaj.mk' [.box _ [_,_,_],.box _ [_,_,_,_,_,_,_]] [.box pl _,.box ps _,.box sb _,.map mb _,.row _ _ _ _ _ _] (by (repeat' (first|exact Xyo _|refine XyE _ ?_|refine (XyB (l₁:=[_,_,_])).trans (XyE _ ?_)|fail))) (Xak.refl _ _) (by (repeat' (first|exact VwL.nil|(refine VwL.cons ?_ ?_)|exact Vw.refl _|exact Vw.top _|fail))))⟩)
   | fail
 ·have e:=hs.done hlt
  subst e
  (repeat' (first|refine Wkx.go ?_|(refine Xaz (fun h=>?_) (fun h=>?_)<;>first|(exfalso;omega;done)|skip)|refine Xad ?_|fail))
  refine Xaa _ _ (XaF rfl (RV.tmp _) (Xaj.mk' [.box pl _,.box ps _] [.box sb _,.map mb _,.row _ _ _ _ _ _] (by (repeat' (first|exact Xyo _|fail))) (Xak.refl _ _) (VwL.refl _ _))) ⟨_,_,rfl,rfl⟩
section
variable {P:Program} {Δ:List Deferred} {V O:Nat→Prop} {w0 w w':World} {H H' D:List Hp} {T T':List AV} {a:Act} {o:Oper} {K:List AV→List Hp→Prop} {ρ:Operand→AV}
theorem XgW (t e:TypeId) (x:Operand) (L size b:Nat) (ho:o.op=.slice t x none none none) (hx:ρ x=.x (.pointer (some ⟨b,0,none⟩))) (hA:P.underlying t=some (.array L e)∧(P.info? e).map (·.size)=some size) :
  XeE P o ρ H (.x (.slice (some ⟨b,0,none⟩) L L)):=by
 intro V a w ok
 have e1:=ok.evx (by simp [ho,Op.operands]) hx
 obtain ⟨ht,hs⟩:=hA
 obtain ⟨inf,hi1,hi2⟩:=Option.map_eq_some_iff.1 hs
 refine ⟨_,fun w'=>?_,by rw [Den]⟩
 have hadd:(⟨b,0,none⟩:Addr).add 0=⟨b,0,none⟩:=Xck b 0 0
 simp [execOp,ho,e1,Instr.sliceAt,run_underlying ht,Instr.sureAddr,Instr.sliceBounds,Xck,sizeOf,typeInfo,hi1,hi2,hadd,Result.andThen]
def Xyc (ρ:Operand→AV) (H:List Hp) (x:Operand) (m:Nat) (news:List AV):Prop:=
 (∃ad c,ρ x=.x (.slice ad 0 c)∧m=0∧news=[]) ∨
 ∃(q g off c n cap:Nat) (e:TypeId) (cells:List AV),ρ x=.x (.slice (some ⟨g,off,none⟩) m c)∧H[q]?=some (.row (some ⟨g,0,none⟩) n cap e 1 cells)∧off+m≤n∧news=(cells.drop off).take m
theorem Xhq (i:Nat) (x y:Operand) (t u e:TypeId) (b dl dc m:Nat) (cells news:List AV) (ho:o.op=.call { callee:=.builtin .copy,args:=#[x,y],argTypes:=#[t,u] }) (hx:ev T x=.x (.slice (some ⟨b,0,none⟩) dl dc)) (hi:H[i]?=some (.box b cells))
  (ht:elT P t=some (e,1)) (hy:Xyc (ev T) H y m news) (hm:m≤dl) (hc:m≤cells.length)
  (hK:K (Xa9 T o.dst (.x (.int .i64 m))) (H.set i (.box b (spl cells 0 news)))):Stp P o T H K:=by
 intro Δ V O w0 a w Kc Q r hKc
 obtain ⟨vals,hd,hl,hcl⟩:=r.hp i _ hi
 have hvl:=hd.len
 obtain ⟨i1,hE1,hE2⟩:∃inf,P.underlying t=some (.slice e)∧P.info? e=some inf∧inf.size=1:=by
  unfold elT at ht
  simp only [Option.bind_eq_bind] at ht
  split at ht
  ·rename_i e0 h0
   obtain ⟨inf,h3,h4⟩:=Option.bind_eq_some_iff.1 ht
   simp only [Option.some.injEq,Prod.mk.injEq] at h4
   obtain ⟨rfl,h4⟩:=h4
   exact ⟨inf,h0,h3,h4⟩
  ·cases ht
 obtain ⟨hinf,hsz⟩:=hE2
 -- what is read
 obtain ⟨sv,nv,hsv,hnd,hnl,hone,hfirst⟩:∃(sv:Value) (nv:List Value),a.eval y=sv∧DenL (FB V H) w news nv∧nv.length=m∧(∀u∈nv,u.oneCell'=true)∧(∃ad c,sv=.slice ad m c)∧(Builtin.firstCells 1 m sv).run P w=.ok nv.toArray w:=by
  rcases hy with ⟨ad,c,h1,rfl,rfl⟩|⟨q,g,off,c,n,cap,e',rc,h1,h2,h3,rfl⟩
  ·refine ⟨_,[],r.evx h1,by rw [DenL],rfl,by simp,⟨ad,c,rfl⟩,?_⟩
   cases ad with
   | none=>exact run_firstCells_none (P:=P) w 1 0 0 c
   | some x=>exact run_firstCells_some (P:=P) w 1 0 x 0 c [] rfl (fun j v h=>by simp at h)
  ·obtain ⟨rv,hrd,hown,hrone⟩:=r.hp q _ h2
   have hcs:=hown.cells (g:=g) rfl
   refine ⟨_,(rv.drop off).take m,r.evx h1,(hrd.drop off).take m,?_,fun u hu=>hrone u (List.mem_of_mem_drop (List.mem_of_mem_take hu)),⟨_,c,rfl⟩,?_⟩
   ·have:=hown.1
    rw [List.length_take,List.length_drop];omega
   ·refine run_firstCells_some (P:=P) w 1 m _ m c _ ?_ fun j v hj=>?_
    ·have:=hown.1
     rw [List.length_take,List.length_drop];omega
    ·rw [List.getElem?_take] at hj
     split at hj
     ·rw [List.getElem?_drop] at hj
      have:=hcs _ v hj
      rw [Xck] at this ⊢
      rwa [Nat.zero_add] at this
     ·cases hj
 obtain ⟨⟨sad,sc,rfl⟩,hfirst⟩:=hfirst
 have hlen:news.length=m:=by rw [←hnd.len,hnl]
 obtain ⟨w',hr,g1,g2,g3,g4,g5,g6,g7,g8⟩:=Xcq (P:=P) b nv 0 0 w hone (fun j hj=>by
  have hj':j < vals.length:=by omega
  obtain ⟨c1,_,c3⟩:=hcl j vals[j] (by simp [hj'])
  simp only [Nat.zero_add]
  exact ⟨by rw [c1];rfl,c3⟩)
 have hrun:(Builtin.copy_ #[t,u] o.type #[.slice (some ⟨b,0,none⟩) dl dc,.slice sad m sc]).run P w=.ok (.int .i64 m) w':=by
  have hmin:Nat.min m dl=m:=Nat.min_eq_left hm
  simp [Builtin.copy_,run_underlying hE1,Builtin.lenOf,sizeOf,typeInfo,hinf,hsz,hmin,hfirst,hr,goInt,Result.andThen]
 unfold Oper.wp execOp
 simp only [ho,resolve,invoke,builtin,Sem.run_bind,Sem.run_pure,Result.andThen_ok,List.map_toArray,Xyt,Xyx,r.evx hx,hsv,hrun,Oper.upon]
 refine hKc _ _ _ _ hK (Rel.put (Rel.turnAt (w':=w') (y:=.box b (spl cells 0 news)) r i hi g1 g2 g3 (by omega) (fun k _ hk=>g5 k (fun e=>hk (by rw [e];rfl))) (fun k hk=>⟨by cases hk;omega,.inl hk⟩) ?_) _ (by rw [Den]))
 have hF:∀k,FB V (H.set i (.box b (spl cells 0 news))) k→FB V H k:=by
  intro k hk
  rcases hk with hk|⟨z,hz,e⟩
  ·exact .inl hk
  ·rcases List.mem_or_eq_of_mem_set hz with hz|rfl
   ·exact .inr ⟨z,hz,e⟩
   ·exact .inr ⟨_,List.mem_of_getElem? hi,e⟩
 have hw:∀k,k < w.heap.size→¬FB V H k→w'.heap[k]?=w.heap[k]?:=fun k _ hn=>g5 k fun e=>hn (.inr ⟨_,List.mem_of_getElem? hi,by rw [e];rfl⟩)
 refine ⟨vals.take 0++nv++vals.drop (0+nv.length),DenL.conv (fun k hk=>.inl (hF k hk)) hw _ _ (hd.spl hnd 0),by omega,fun j u hj=>?_⟩
 simp only [List.take_zero,Xyy,Nat.zero_add] at hj
 by_cases h4:j < nv.length
 ·rw [List.getElem?_append_left h4] at hj
  have e:=g6 j h4
  simp only [Nat.zero_add] at e
  refine ⟨by rw [e];exact hj,hone u (List.mem_of_getElem? hj),?_⟩
  rw [g8]
  have hj':j < vals.length:=by omega
  exact (hcl j vals[j] (by simp [hj'])).2.2
 ·rw [List.getElem?_append_right (by omega),List.getElem?_drop] at hj
  have e:nv.length+(j - nv.length)=j:=by omega
  rw [e] at hj
  obtain ⟨c1,c2,c3⟩:=hcl j u hj
  exact ⟨by rw [g7 j (.inr (by omega))];exact c1,c2,by rw [g8];exact c3⟩
end
open Go.RowKit
theorem XaD (n:Nat):AV.cells (.x (v4 n))=w4 n:=rfl
theorem XaT (n:Nat):(w4 n).all AV.one=true:=rfl
theorem Xin {P:Program} {o:Oper} {ρ:Operand→AV} {H:List Hp} (t u:TypeId) (x y:Operand) (m:Nat) (ho:o.op=.binOp .and t x y u) (hx:ρ x=.x (.int .u64 m)) (hy:ρ y=.x (.int .u64 1)) (hm:m < 18446744073709551616):XeE P o ρ H (.x (.int .u64 (m &&& 1:Nat))):=
 Xhu .and t u x y m 1 _ ho hx hy hm (by decide) rfl
theorem Xg9 (n c:Nat) (hc:c < 256):Xay Tryz.prog 58 [] [.x (v4 n),.x (.int .u8 c)] (fun r H'=>r=.x (.bool (n.testBit c))∧H'=[]):=by
 refine XaV Tryz.func58 Tryz.ntmps58 ?_
 (have wx:=And.intro @XaD (And.intro @XaT (And.intro @XmU (And.intro @Nat.mul_one @Nat.zero_add)));(repeat' (first|refine Wkx.go ?_|refine Xad ?_ (h:=by exact fun _=>Xdb (Xin _ _ _ _ _ rfl rfl rfl (by first|exact Xcr _ (XcM _ _)|fail)))|refine XgO ?_|(refine Xab rfl ?_;(refine Xd9 (fun b=>?_)))|fail)))<;>(try clear wx)
 refine Xaa _ _ (XaF rfl (RV.tmp _) (XcS (D:=[_]) (R:=[]))) ?_
 refine ⟨?_,rfl⟩
 have hm:=XsN n c hc
 refine congrArg (fun q=>AV.x (.bool q)) ?_
 rw [Nat.and_one_is_mod] at hm
 cases ht:n.testBit c with
 | false=>rw [ht] at hm;simp only [Bool.false_eq_true,if_false] at hm;simp;omega
 | true=>rw [ht] at hm;simp only [if_true] at hm;simp;omega
theorem Xq3 (n:Nat):XdB n=(List.range' 0 256).find? fun c=>c≠10 && n.testBit c:=by
 unfold XdB;rw [List.range_eq_range']
def XxB:Option Nat→Int
 | none => -1
 | some c=>c
theorem Xud (n:Nat):Xay Tryz.prog 59 [] [.x (v4 n)] (fun r H'=>r=.x (.int .i64 (XxB (XdB n)))∧H'=[]):=by
 rw [Xq3]
 generalize hR0:((List.range' 0 256).find? fun c=>c≠10 && n.testBit c)=R
 have hR0:=Lib.hid hR0
 refine XaV Tryz.func59 Tryz.ntmps59 ?_
 (have wx:=And.intro @XaD @XaT;(repeat' (first|refine Wkx.go ?_|refine Xad ?_|(refine Xab rfl ?_;(refine Xd9 (fun b=>?_)))|fail)))<;>(try clear wx)
 refine Xah (S:=Nat) (fun k=>frm 17 [(1,.x (.pointer (some ⟨b,0,none⟩))),(2,.x (.int .i64 0)),(4,.x (.int .i64 (k:Nat)))]) (fun k=>[.box b (w4 n)]) (fun k=>k≤256∧((List.range' k (256 - k)).find? fun c=>c≠10 && n.testBit c)=R) (fun k=>256 - k) 0 (XaX (D:=[])) ⟨by omega,hR0.out⟩ fun k hk=>?_
 clear hR0
 obtain ⟨hk,hR⟩:=hk
 simp only [wfr]
 by_cases hlt:k < 256
 ·rw [show 256 - k=(256 - (k+1))+1 by omega,List.range'_succ,List.find?_cons] at hR
  have hR:=Lib.hid hR
  (have wx:=@w4r;(repeat' (first|refine Wkx.go ?_|(refine Xaz (fun h=>?_) (fun h=>?_)<;>first|(exfalso;omega;done)|skip)|refine Xad ?_ (h:=by (intro hp;(try simp only [wgp] at hp);(try simp only [hp,wte]);(try simp only [whn] at hp);exact Xbb rfl rfl Tryz.func58 (Xg9 n k hlt)))|refine Xad ?_|fail)))<;>(try clear wx)
  ·have hR:=hR.out
   rw [show (decide (k≠10) && n.testBit k)=true from by rw [h.2,Bool.and_true,decide_eq_true_eq];omega] at hR
   subst hR
   refine Xaa _ _ (XaF rfl (RV.tmp _) (XcS (D:=[_]) (R:=[]))) ?_
   exact ⟨rfl,rfl⟩
  ·have hR:=hR.out
   rw [show (decide (k≠10) && n.testBit k)=false from by rcases h with h|h;(have:k=10:=by omega);(subst this;rfl);rw [h,Bool.and_false]] at hR
   exact ⟨k+1,by omega,⟨by omega,hR⟩,(XaX (D:=[]))⟩
 ·obtain rfl:k=256:=by omega
  have hR:none=R:=hR
  subst hR
  (repeat' (first|refine Wkx.go ?_|(refine Xaz (fun h=>?_) (fun h=>?_)<;>first|(exact absurd h (by decide))|skip)|refine Xad ?_|fail))
  refine Xaa _ _ (XaF rfl (RV.tmp _) (XcS (D:=[_]) (R:=[]))) ?_
  exact ⟨rfl,rfl⟩
def XqI (k:Nat):Int:=match XcO k with
 | none => -1
 | some c=>c
theorem XvT (k:Nat):Xay Tryz.prog 52 [] [.x (.int .i64 k)] (fun r H'=>r=.x (.int .i64 (XqI k))∧H'=[]):=by
 unfold XqI XcO
 refine XaV Tryz.func52 Tryz.ntmps52 ?_
 (repeat' (first|refine Wkx.go ?_|(refine Xaz (fun h=>?_) (fun h=>?_)<;>first|(exfalso;omega;done)|skip)|refine Xad ?_|fail))
 all_goals
  refine Xaa _ _ (XaF rfl (RV.tmp _) (XcS (D:=[]))) ?_
  refine ⟨?_,rfl⟩
  (repeat' split)<;>first|rfl|(rename_i h9;(repeat' split at h9)<;>first|(simp at h9;subst h9;rfl)|(exfalso;omega)|(exfalso;simp_all;done))|fail
theorem Xe1 (sb mb:Nat) (l:List Sx) (q:SnL × List Sp) (ad:Option Addr) (cap:Nat) (p:Sp) (o:Og) (hn:XfF l.length q.1) (hl:l.length≤1000) (hp:p.st < l.length) (hq0:q.2.length≤1000000) :
  Xay Tryz.prog 25 [.box sb [.sq l.length (sxa l),.x (.map (some mb))],.map mb (snv q.1),.row ad q.2.length cap 86 3 (spa q.2)] [.x (.pointer (some ⟨sb,0,none⟩)),.x (.slice ad q.2.length cap),.x (.agg #[.int .i64 p.st,.bool p.bol,.bool p.eol]),.x (.agg #[.int .i64 o.from_.st,.bool o.from_.bol,.bool o.from_.eol,.bool o.root,.bool o.over,.int .u8 (o.c % 256:Nat)])] (fun r H'=>∃ad' cap',r=.x (.slice ad' (XaB q p o).2.length cap')∧H'=[.box sb [.sq l.length (sxa l),.x (.map (some mb))],.map mb (snv (XaB q p o).1),.row ad' (XaB q p o).2.length cap' 86 3 (spa (XaB q p o).2)]):=by
 obtain ⟨sn,list⟩:=q
 exact Xo0 sb mb l sn list ad cap p o hn hl hp hq0
theorem Xrx {l:List Sx} {p:Sp} (q:SnL × List Sp) (h:(l.getD p.st default).kind≠1):XbV l p q=q:=by
 unfold XbV;simp only;rw [if_pos h]
theorem Xps {l:List Sx} {p:Sp} (q:SnL × List Sp) (h:(l.getD p.st default).kind=1):XbV l p q=match XdB (l.getD p.st default).set with
  | none=>if (l.getD p.st default).set.testBit 10 then XaB q ⟨(l.getD p.st default).out,true,false⟩ { from_:=p,over:=true,c:=10 } else q
  | some c=>if p.eol then (if (l.getD p.st default).set.testBit 10 then XaB q ⟨(l.getD p.st default).out,true,false⟩ { from_:=p,over:=true,c:=10 } else q) else XaB (if (l.getD p.st default).set.testBit 10 then XaB q ⟨(l.getD p.st default).out,true,false⟩ { from_:=p,over:=true,c:=10 } else q) ⟨(l.getD p.st default).out,false,false⟩ { from_:=p,over:=true,c:=c }:=by
 unfold XbV;simp only;rw [if_neg (by omega)];rfl
structure StI (l:List Sx) (sn:SnL) (list:List Sp) (Q:SnL × List Sp) (i:Nat) (q:SnL × List Sp):Prop where
 grow:XcP l.length sn [] q
 le:i≤list.length
 eq:(list.drop i).foldl (fun q p=>XbV l p q) q=Q
theorem StI.next {l:List Sx} (hv:Xa5 l=true) {sn:SnL} {list:List Sp} (hi:In sn list) {Q:SnL × List Sp} {i:Nat} {q:SnL × List Sp} (h:StI l sn list Q i q) (hlt:i < list.length):StI l sn list Q (i+1) (XbV l list[i] q):=by
 refine ⟨h.grow.step1 hv _ (h.grow.sub (hi _ (List.getElem_mem hlt))),by omega,?_⟩
 have e:=h.eq
 rw [List.drop_eq_getElem_cons hlt,Xyp] at e
 exact e
theorem StI.done {l:List Sx} {sn:SnL} {list:List Sp} {Q:SnL × List Sp} {i:Nat} {q:SnL × List Sp} (h:StI l sn list Q i q) (hlt:¬i < list.length):q=Q:=by
 have e:=h.eq
 rw [List.drop_of_length_le (by omega)] at e
 exact e
theorem Xwx (sb mb:Nat) (l:List Sx) (sn:SnL) (list:List Sp) (hv:Xa5 l=true) (hn:XfF l.length sn) (hl:l.length≤1000) (hin:In sn list) (hll:list.length≤1000000) :
  Xay Tryz.prog 29 [.box sb [.sq l.length (sxa l),.x (.map (some mb))],.map mb (snv sn)] [.x (.pointer (some ⟨sb,0,none⟩)),.sq list.length (spa list)] (fun r H'=>∃ad' cap',r=.x (.slice ad' (Xcv l sn list).2.length cap')∧H'=[.box sb [.sq l.length (sxa l),.x (.map (some mb))],.map mb (snv (Xcv l sn list).1),.row ad' (Xcv l sn list).2.length cap' 86 3 (spa (Xcv l sn list).2)]):=by
 have hI:StI l sn list (Xcv l sn list) 0 (sn,[]):=⟨XcP.refl hn,Nat.zero_le _,rfl⟩
 generalize Xcv l sn list=Q at *
 refine XaV Tryz.func29 Tryz.ntmps29 ?_
 refine Xa3 86 3 ?_
 (repeat' (first|refine Wkx.go ?_|refine Xad ?_|fail))
 refine Xah (S:=Nat × (SnL × List Sp) × Option Addr × Nat) (fun s=>frm 60 [(0,.x (.pointer (some ⟨sb,0,none⟩))),(5,.x (.slice s.2.2.1 s.2.1.2.length s.2.2.2)),(10,.sq list.length (spa list)),(11,.x (.int .i64 list.length)),(12,.x (.int .i64 s.1))])
  (fun s=>[.box sb [.sq l.length (sxa l),.x (.map (some mb))],.map mb (snv s.2.1.1),.row s.2.2.1 s.2.1.2.length s.2.2.2 86 3 (spa s.2.1.2)]) (fun s=>StI l sn list Q s.1 s.2.1) (fun s=>list.length - s.1) (0,(sn,[]),none,0) (Xaj.mk' [] [.box sb [.sq l.length (sxa l),.x (.map (some mb))],.map mb (snv sn),.row none 0 0 86 3 []] (by (repeat' (first|exact Xyo _|refine (XyB (l₁:=[_])).trans (XyE _ ?_)|fail))) (Xak.refl _ _) (by (repeat' (first|exact VwL.nil|(refine VwL.cons ?_ ?_)|exact Vw.refl _|exact Vw.top _|fail)))) hI fun s hs=>?_
 clear hI
 obtain ⟨i,q,ad,cap⟩:=s
 simp only at hs
 have hlen:=hs.grow.len (Nat.zero_le _)
 simp only [wfr]
 by_cases hlt:i < list.length
 ·have hnx:=hs.next hv hin hlt
  have hpin:=hs.grow.sub (hin _ (List.getElem_mem hlt))
  have hd1:=Xlt list i hlt
  generalize list[i]=p at hnx hpin hd1
  have hp:p.st < l.length:=by obtain ⟨y,hy,e⟩:=hpin;rw [←e];exact hs.grow.ok.st y hy
  have hd2:=XsB l p.st hp
  have F0:=Xrx (l:=l) (p:=p) q
  have F1:=Xps (l:=l) (p:=p) q
  have H1:=fun h=>Xjd (Xe6 hv hp) (.inl h)
  generalize l.getD p.st default=d at *
  have hsn:=hs.grow.ok
  have G:=fun (h:d.out < l.length)=>hs.grow.reach ⟨d.out,true,false⟩ { from_:=p,over:=true,c:=10 } h hpin
  have hil:=hs.le
  clear hs hpin
  have hd1:=Lib.hid hd1;have hd2:=Lib.hid hd2
  have hC:=Xg9 d.set 10 (by decide)
  have hO:=Xud d.set
  cases hoo:XdB d.set with
  | none=>
    rw [hoo] at F1 hO
    simp only [XxB] at hO F1
    clear hoo
    (have wx:=@hd1.out;(repeat' (first|refine Wkx.go ?_|(refine Xaz (fun h=>?_) (fun h=>?_)<;>first|(exfalso;omega;done)|skip)|refine Xad ?_|(refine Xab rfl ?_;(first|refine Xbh ?_|refine Xb8 (fun b=>?_)))|fail)))<;>(try clear wx)
    refine Xeq (B:=[_,_]) (R:=[_,_]) mixed [0,1,2,3,4,5,6,7] [] [9] (some 8) _ 1 (Xyo _) (by decide +kernel) rfl (XeU rfl rfl rfl XbT.out rfl rfl) (by decide) ?_
    (have wx:=And.intro @hd2.out @w4.eq_1;(repeat' (first|refine Xjh ?_|fail)))<;>(try clear wx)
    (first|(refine Xqo (fun b=>?_))|fail);(refine Xd8 9 ?_;(first|refine Xbh ?_|fail));refine Xao (by decide +kernel) ?_
    (repeat' (first|refine Wkx.go ?_|(refine Xaz (fun h=>?_) (fun h=>?_)<;>first|(exact absurd h (by decide))|skip)|refine XlL ?_|refine Xad ?_ (h:=by exact fun _=>Xbb rfl rfl Tryz.func58 (hC))|refine Xad ?_ (h:=by exact fun _=>Xbb rfl rfl Tryz.func59 (hO))|refine Xad ?_|(refine Xab rfl ?_;((refine Xa7 Tryz.func25 [_,_,_] rfl rfl (by (repeat' (first|exact Xyo _|refine (XyB (l₁:=[_])).trans (XyE _ ?_)|refine (XyB (l₁:=[_,_])).trans (XyE _ ?_)|fail))) (Xe1 _ _ l q _ _ ⟨d.out,true,false⟩ { from_:=p,over:=true,c:=10 } hsn hl (H1 (by omega)) (by omega)) ?_;rintro _ _ ⟨ad',cap',rfl,rfl⟩);refine XaJ ?_))|fail))
    all_goals first
     | (rw [F0 (by omega)] at hnx;exact ⟨(i+1,_,_,_),(by show list.length - (i+1) < list.length - i;omega),hnx,(Xaj.mk' [.box _ [_,_,_],.box _ [_,_,_,_,_,_,_]] [.box sb _,.map mb _,.row _ _ _ _ _ _] (by (repeat' (first|exact Xyo _|refine XyE _ ?_|refine (XyB (l₁:=[_])).trans (XyE _ ?_)|fail))) (Xak.refl _ _) (by (repeat' (first|exact VwL.nil|(refine VwL.cons ?_ ?_)|exact Vw.refl _|exact Vw.top _|fail))))⟩)
     | (rw [F1 (by omega),if_pos (by assumption)] at hnx;exact ⟨(i+1,_,_,_),(by show list.length - (i+1) < list.length - i;omega),hnx,(Xaj.mk' [.box _ [_,_,_],.box _ [_,_,_,_,_,_,_]] [.box sb _,.map mb _,.row _ _ _ _ _ _] (by (repeat' (first|exact Xyo _|refine (XyB (l₁:=[_,_,_])).trans (XyE _ ?_)|fail))) (Xak.refl _ _) (by (repeat' (first|exact VwL.nil|(refine VwL.cons ?_ ?_)|exact Vw.refl _|exact Vw.top _|fail))))⟩)
     | (rw [F1 (by omega),if_neg (by simp only [‹d.set.testBit 10=false›];decide)] at hnx;exact ⟨(i+1,_,_,_),(by show list.length - (i+1) < list.length - i;omega),hnx,(Xaj.mk' [.box _ [_,_,_],.box _ [_,_,_,_,_,_,_]] [.box sb _,.map mb _,.row _ _ _ _ _ _] (by (repeat' (first|exact Xyo _|refine XyE _ ?_|refine (XyB (l₁:=[_])).trans (XyE _ ?_)|fail))) (Xak.refl _ _) (by (repeat' (first|exact VwL.nil|(refine VwL.cons ?_ ?_)|exact Vw.refl _|exact Vw.top _|fail))))⟩)
     | fail
  | some c=>
    rw [hoo] at F1 hO
    simp only [XxB] at hO F1
    clear hoo
    (have wx:=@hd1.out;(repeat' (first|refine Wkx.go ?_|(refine Xaz (fun h=>?_) (fun h=>?_)<;>first|(exfalso;omega;done)|skip)|refine Xad ?_|(refine Xab rfl ?_;(first|refine Xbh ?_|refine Xb8 (fun b=>?_)))|fail)))<;>(try clear wx)
    refine Xeq (B:=[_,_]) (R:=[_,_]) mixed [0,1,2,3,4,5,6,7] [] [9] (some 8) _ 1 (Xyo _) (by decide +kernel) rfl (XeU rfl rfl rfl XbT.out rfl rfl) (by decide) ?_
    (have wx:=And.intro @hd2.out @w4.eq_1;(repeat' (first|refine Xjh ?_|fail)))<;>(try clear wx)
    (first|(refine Xqo (fun b=>?_))|fail);(refine Xd8 9 ?_;(first|refine Xbh ?_|fail));refine Xao (by decide +kernel) ?_
    (repeat' (first|refine Wkx.go ?_|(refine Xaz (fun h=>?_) (fun h=>?_)<;>skip)|refine Xad ?_ (h:=by exact fun _=>Xbb rfl rfl Tryz.func58 (hC))|refine Xad ?_ (h:=by exact fun _=>Xbb rfl rfl Tryz.func59 (hO))|refine Xad ?_|(refine Xab rfl ?_;(first|((refine Xa7 Tryz.func25 [_,_,_] rfl rfl (by (repeat' (first|exact Xyo _|refine (XyB (l₁:=[_])).trans (XyE _ ?_)|refine (XyB (l₁:=[_,_])).trans (XyE _ ?_)|fail))) (Xe1 _ _ l q _ _ ⟨d.out,true,false⟩ { from_:=p,over:=true,c:=10 } hsn hl (H1 (by omega)) (by omega)) ?_;rintro _ _ ⟨ad',cap',rfl,rfl⟩);refine XaJ ?_)|((refine Xa7 Tryz.func25 [_,_,_] rfl rfl (by (repeat' (first|exact Xyo _|fail))) (Xe1 _ _ l (XaB q ⟨d.out,true,false⟩ { from_:=p,over:=true,c:=10 }) _ _ ⟨d.out,false,false⟩ { from_:=p,over:=true,c:=c } (G (H1 (by omega))).ok hl (H1 (by omega)) (by have:=(G (H1 (by omega))).len (Nat.zero_le _);omega)) ?_;rintro _ _ ⟨ad',cap',rfl,rfl⟩);refine XaJ ?_)|((refine Xa7 Tryz.func25 [_,_,_] rfl rfl (by (repeat' (first|exact Xyo _|refine (XyB (l₁:=[_])).trans (XyE _ ?_)|refine (XyB (l₁:=[_,_])).trans (XyE _ ?_)|fail))) (Xe1 _ _ l q _ _ ⟨d.out,false,false⟩ { from_:=p,over:=true,c:=c } hsn hl (H1 (by omega)) (by omega)) ?_;rintro _ _ ⟨ad',cap',rfl,rfl⟩);refine XaJ ?_)))|fail))
    all_goals first
     | (rw [F0 (by omega)] at hnx;exact ⟨(i+1,_,_,_),(by show list.length - (i+1) < list.length - i;omega),hnx,(Xaj.mk' [.box _ [_,_,_],.box _ [_,_,_,_,_,_,_]] [.box sb _,.map mb _,.row _ _ _ _ _ _] (by (repeat' (first|exact Xyo _|refine XyE _ ?_|refine (XyB (l₁:=[_])).trans (XyE _ ?_)|fail))) (Xak.refl _ _) (by (repeat' (first|exact VwL.nil|(refine VwL.cons ?_ ?_)|exact Vw.refl _|exact Vw.top _|fail))))⟩)
     | (rw [F1 (by omega),if_pos (by first|assumption|(rcases h with h|h;exact absurd h (by omega);exact h)|(rcases h with h|h;exact h;exact h)),if_pos (by assumption)] at hnx;exact ⟨(i+1,_,_,_),(by show list.length - (i+1) < list.length - i;omega),hnx,(Xaj.mk' [.box _ [_,_,_],.box _ [_,_,_,_,_,_,_]] [.box sb _,.map mb _,.row _ _ _ _ _ _] (by (repeat' (first|exact Xyo _|refine (XyB (l₁:=[_,_,_])).trans (XyE _ ?_)|fail))) (Xak.refl _ _) (by (repeat' (first|exact VwL.nil|(refine VwL.cons ?_ ?_)|exact Vw.refl _|exact Vw.top _|fail))))⟩)
     | (rw [F1 (by omega),if_pos (by first|assumption|(rcases h with h|h;exact absurd h (by omega);exact h)|(rcases h with h|h;exact h;exact h)),if_neg (by simp only [‹d.set.testBit 10=false›];decide)] at hnx;exact ⟨(i+1,_,_,_),(by show list.length - (i+1) < list.length - i;omega),hnx,(Xaj.mk' [.box _ [_,_,_],.box _ [_,_,_,_,_,_,_]] [.box sb _,.map mb _,.row _ _ _ _ _ _] (by (repeat' (first|exact Xyo _|refine XyE _ ?_|refine (XyB (l₁:=[_])).trans (XyE _ ?_)|fail))) (Xak.refl _ _) (by (repeat' (first|exact VwL.nil|(refine VwL.cons ?_ ?_)|exact Vw.refl _|exact Vw.top _|fail))))⟩)
     | (rw [F1 (by omega),if_neg (by first|(rw [h];decide)|fail),if_pos (by assumption)] at hnx;exact ⟨(i+1,_,_,_),(by show list.length - (i+1) < list.length - i;omega),hnx,(Xaj.mk' [.box _ [_,_,_],.box _ [_,_,_,_,_,_,_]] [.box sb _,.map mb _,.row _ _ _ _ _ _] (by (repeat' (first|exact Xyo _|refine (XyB (l₁:=[_,_,_])).trans (XyE _ ?_)|fail))) (Xak.refl _ _) (by (repeat' (first|exact VwL.nil|(refine VwL.cons ?_ ?_)|exact Vw.refl _|exact Vw.top _|fail))))⟩)
     | (rw [F1 (by omega),if_neg (by first|(rw [h];decide)|fail),if_neg (by simp only [‹d.set.testBit 10=false›];decide)] at hnx;exact ⟨(i+1,_,_,_),(by show list.length - (i+1) < list.length - i;omega),hnx,(Xaj.mk' [.box _ [_,_,_],.box _ [_,_,_,_,_,_,_]] [.box sb _,.map mb _,.row _ _ _ _ _ _] (by (repeat' (first|exact Xyo _|refine (XyB (l₁:=[_,_,_])).trans (XyE _ ?_)|fail))) (Xak.refl _ _) (by (repeat' (first|exact VwL.nil|(refine VwL.cons ?_ ?_)|exact Vw.refl _|exact Vw.top _|fail))))⟩)
     | fail
 ·have e:=hs.done hlt
  subst e
  (repeat' (first|refine Wkx.go ?_|(refine Xaz (fun h=>?_) (fun h=>?_)<;>first|(exfalso;omega;done)|skip)|refine Xad ?_|fail))
  refine Xaa _ _ (XaF rfl (RV.tmp _) (Xaj.mk' [] [.box sb _,.map mb _,.row _ _ _ _ _ _] (by (repeat' (first|exact Xyo _|fail))) (Xak.refl _ _) (VwL.refl _ _))) ⟨_,_,rfl,rfl⟩
end Go.Proofs.YtdlblokjfoggpaaGreatDoor
