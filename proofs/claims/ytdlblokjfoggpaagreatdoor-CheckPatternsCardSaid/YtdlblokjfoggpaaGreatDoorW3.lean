import Derived.Test.YtdlblokjfoggpaaGreatDoorW2
/- A walk over symbolic memory: addresses, slices, append. No program in sight. -/
set_option linter.unusedSimpArgs false
set_option linter.unusedVariables false
set_option maxRecDepth 100000
set_option maxHeartbeats 8000000
namespace Go.Proofs.YtdlblokjfoggpaaGreatDoor
open Go.RowKit
def XrX (P:Program) (s:TypeId) (f:Nat):Option Nat:=do
 match P.underlying s with
 | some (.struct fs)=>
   let f ←fs[f]?
   let i ←P.info? f.type
   if i.size=0 then none else some f.offset
 | _=>none
def elT (P:Program) (t:TypeId):Option (TypeId × Nat):=do
 match P.underlying t with
 | some (.slice e)=>
   let i ←P.info? e
   some (e,i.size)
 | _=>none
section
variable {P:Program} {Δ:List Deferred} {V O:Nat→Prop} {w0 w w':World} {H H':List Hp} {T:List AV} {a:Act} {o:Oper} {K:List AV→List Hp→Prop}
theorem Xck (b off j:Nat):(⟨b,off,none⟩:Addr).add j=⟨b,off+j,none⟩:=by unfold Addr.add;split<;>simp_all
theorem Xev (s:TypeId) (f k:Nat) (h:XrX P s f=some k) (b off:Nat) (w:World):(Instr.fieldAt s (.pointer (some ⟨b,off,none⟩)) f).run P w=.ok (.pointer (some ⟨b,off+k,none⟩)) w:=by
 unfold XrX at h
 split at h
 ·rename_i fs hu
  cases hf:fs[f]? with
  | none=>simp [hf] at h
  | some fd=>
    cases hi:P.info? fd.type with
    | none=>simp [hf,hi] at h
    | some i=>
      simp [hf,hi] at h
      obtain ⟨h1,rfl⟩:=h
      simp [Instr.fieldAt,run_underlying hu,hf,Instr.sureAddr,fieldPlace,sizeOf,typeInfo,hi,h1,Xck]
 ·cases h
theorem XgP {Kc:Act→World→Prop} {Q:Exit→Act→World→Prop} {s:TypeId} {x:Operand} {f k b off:Nat} (ho:o.op=.fieldAddr s x f) (hk:XrX P s f=some k) (hx:a.eval x=.pointer (some ⟨b,off,none⟩)) (h:Kc (a.put o.dst (.pointer (some ⟨b,off+k,none⟩))) w):o.wp P a w Kc Q:=by
 unfold Oper.wp execOp
 simp only [ho,hx,Sem.run_bind,Sem.run_pure,Xev s f k hk b off w,Result.andThen_ok]
 exact h
theorem Xaq {ρ:Operand→AV} (s:TypeId) (x:Operand) (f k b off:Nat) (ho:o.op=.fieldAddr s x f) (hx:ρ x=.x (.pointer (some ⟨b,off,none⟩))) (hk:XrX P s f=some k):Evl P o ρ H (.x (.pointer (some ⟨b,off+k,none⟩))):=by
 intro V a w Kc Q r hKc
 exact XgP ho hk (r.evx (by simp [ho,Op.operands]) hx) (hKc _ _ (Below.refl _ _) (by rw [Den]))
theorem Mem.drop {F:Nat→Prop} {w:World} {b off:Nat} {vals:List Value} (h:Mem F w (some ⟨b,off,none⟩) vals) (k:Nat):Mem F w (some ⟨b,off+k,none⟩) (vals.drop k):=by
 rcases h with rfl|⟨b',o',e,hb,hc⟩
 ·exact .inl (by simp)
 ·cases e
  exact .inr ⟨b,off+k,rfl,hb,fun j u hj=>by rw [List.getElem?_drop] at hj;rw [Nat.add_assoc];exact hc _ u hj⟩
theorem Mem.take {F:Nat→Prop} {w:World} {ad:Option Addr} {vals:List Value} (h:Mem F w ad vals) (k:Nat):Mem F w ad (vals.take k):=by
 rcases h with rfl|⟨b',o',e,hb,hc⟩
 ·exact .inl (by simp)
 ·exact .inr ⟨b',o',e,hb,fun j u hj=>by
   rw [List.getElem?_take] at hj
   split at hj
   ·exact hc _ u hj
   ·cases hj⟩
theorem XcE {ρ:Operand→AV} (s:TypeId) (x:Operand) (f k:Nat) (cells:List AV) (ho:o.op=.fieldAddr s x f) (hx:ρ x=.at_ cells) (hk:XrX P s f=some k):Evl P o ρ H (.at_ (cells.drop k)):=by
 intro V a w Kc Q r hKc
 have hd:=r.ops x (by simp [ho,Op.operands,Call.operands])
 rw [hx,Den] at hd
 obtain ⟨b,off,vals,hv,hm,hl⟩:=hd
 exact XgP ho hk hv (hKc _ _ (Below.refl _ _) (by rw [Den];exact ⟨b,off+k,vals.drop k,rfl,hm.drop k,hl.drop k⟩))
theorem Xbl {ρ:Operand→AV} (x:Operand) (ho:o.op=.nilCheck x) (hx:(∃ad,ρ x=.x (.pointer (some ad)))∨∃cells,ρ x=.at_ cells):Evl P o ρ H (ρ x):=by
 intro V a w Kc Q r hKc
 have hv:∃ad,a.eval x=.pointer (some ad):=by
  rcases hx with ⟨ad,hx⟩|⟨cells,hx⟩
  ·exact ⟨ad,r.evx (by simp [ho,Op.operands]) hx⟩
  ·have hd:=r.ops x (by simp [ho,Op.operands,Call.operands])
   rw [hx,Den] at hd
   obtain ⟨b,off,vals,hv,_⟩:=hd
   exact ⟨_,hv⟩
 obtain ⟨ad,hv⟩:=hv
 have hd:=r.ops x (by simp [ho,Op.operands,Call.operands])
 unfold Oper.wp execOp
 rw [hv] at hd
 simp only [ho,hv,Sem.run_pure,Oper.upon]
 exact hKc _ _ (Below.refl _ _) (hd)
theorem Xew (t e:TypeId) (size:Nat) (ht:elT P t=some (e,size)) (b off n cap:Nat) (k:IntKind) (i:Int) (h0:0≤i) (h1:i < n) (w:World) :
  (Instr.indexAt t (.slice (some ⟨b,off,none⟩) n cap) (.int k i)).run P w=.ok (.pointer (some ⟨b,off+i.toNat*size,none⟩)) w:=by
 unfold elT at ht
 split at ht
 ·rename_i e' hu
  cases hi:P.info? e' with
  | none=>simp [hi] at ht
  | some j=>
    simp [hi] at ht
    obtain ⟨rfl,rfl⟩:=ht
    simp [Instr.indexAt,asIntOf,run_underlying hu,sizeOf,typeInfo,hi,h0,h1,Xck]
 ·cases ht
theorem XgQ {Kc:Act→World→Prop} {Q:Exit→Act→World→Prop} {t e:TypeId} {x y:Operand} {size b off n cap:Nat} {k:IntKind} {i:Int} (ho:o.op=.indexAddr t x y) (ht:elT P t=some (e,size)) (hx:a.eval x=.slice (some ⟨b,off,none⟩) n cap) (hy:a.eval y=.int k i) (h0:0≤i) (h1:i < n)
  (h:Kc (a.put o.dst (.pointer (some ⟨b,off+i.toNat*size,none⟩))) w):o.wp P a w Kc Q:=by
 unfold Oper.wp execOp
 simp only [ho,hx,hy,Sem.run_bind,Sem.run_pure,Xew t e size ht b off n cap k i h0 h1 w,Result.andThen_ok]
 exact h
theorem Xbv {ρ:Operand→AV} (t e:TypeId) (x y:Operand) (size n:Nat) (k:IntKind) (i:Int) (j:Nat) (cells:List AV) (ho:o.op=.indexAddr t x y) (hx:ρ x=.sq n cells) (hy:ρ y=.x (.int k i)) (ht:elT P t=some (e,size)) (hi:i=(j:Int)) (h1:j < n) (hc:0 < cells.length):Evl P o ρ H (.at_ (cells.drop (j*size))):=by
 subst hi
 intro V a w Kc Q r hKc
 have hd:=r.ops x (by simp [ho,Op.operands,Call.operands])
 rw [hx,Den] at hd
 obtain ⟨ad,cap,vals,hv,h2,h3,h4,hm,hl⟩:=hd
 have hm':=hm
 rcases hm with rfl|⟨b,off,rfl,hb,hcl⟩
 ·have:=hl.len;simp at this;omega
 ·exact XgQ ho ht hv (r.evx (by simp [ho,Op.operands]) hy) (by omega) (by omega) (hKc _ _ (Below.refl _ _) (by rw [Den];exact ⟨b,_,vals.drop (j*size),rfl,by have:=hm'.drop (j*size);simpa using this,hl.drop _⟩))
theorem XdP {t e:TypeId} {size:Nat} (ht:elT P t=some (e,size)):P.underlying t=some (.slice e):=by
 unfold elT at ht
 split at ht
 ·rename_i e' hu
  cases hi:P.info? e' with
  | none=>simp [hi] at ht
  | some j=>simp [hi] at ht;obtain ⟨rfl,rfl⟩:=ht;exact hu
 ·cases ht
theorem Xen {ρ:Operand→AV} (x:Operand) (t e:TypeId) (size n:Nat) (cells:List AV) (ht:elT P t=some (e,size)) (ho:o.op=.call { callee:=.builtin .len,args:=#[x],argTypes:=#[t] }) (hx:ρ x=.sq n cells):Evl P o ρ H (.x (.int .i64 n)):=by
 intro V a w Kc Q r hKc
 have hd:=r.ops x (by simp [ho,Op.operands,Call.operands])
 rw [hx,Den] at hd
 obtain ⟨ad,cap,vals,hv,h2⟩:=hd
 unfold Oper.wp execOp
 have hrun:(Builtin.len_ #[t] o.type #[a.eval x]).run P w=.ok (.int .i64 n) w:=by rw [hv];simp [Builtin.len_,goInt,run_underlying (XdP ht)]
 simp only [ho,resolve,invoke,builtin,Sem.run_bind,Sem.run_pure,Result.andThen_ok,List.map_toArray,Xyt,Xyx,hrun,Oper.upon]
 exact hKc _ _ (Below.refl _ _) (by rw [Den])
theorem XgG (t e:TypeId) (size:Nat) (ht:elT P t=some (e,size)) (ad:Option Addr) (n cap:Nat) (lo hi:Option Value) (l h:Nat) (hlo:(lo=none∧l=0)∨∃k,lo=some (.int k l)) (hhi:(hi=none∧h=n)∨∃k,hi=some (.int k h)) (h1:l≤h) (h2:h≤cap) (w:World) :
  (Instr.sliceAt t (.slice ad n cap) lo hi none).run P w=.ok (.slice (if cap=l then ad else ad.map (·.add (l*size))) (h - l) (cap - l)) w:=by
 unfold elT at ht
 split at ht
 ·rename_i e' hu
  cases hi':P.info? e' with
  | none=>simp [hi'] at ht
  | some j=>
    simp [hi'] at ht
    obtain ⟨rfl,rfl⟩:=ht
    rcases hlo with ⟨rfl,rfl⟩|⟨k,rfl⟩<;>rcases hhi with ⟨rfl,rfl⟩|⟨k',rfl⟩<;>
     simp [Instr.sliceAt,run_underlying hu,Instr.slice,Instr.sliceBounds,Instr.sliceBound,asIntOf,sizeOf,typeInfo,hi',h1,h2]
 ·cases ht
theorem Xam {ρ:Operand→AV} (t:TypeId) (x y:Operand) (k:IntKind) (i:Int) (j:Nat) (l:List UInt8) (ho:o.op=.index t x y) (hx:ρ x=.x (.string (bs l))) (hy:ρ y=.x (.int k i)) (ht:P.underlying t=some .string) (hi:i=(j:Int)) (h1:j < l.length):Evl P o ρ H (.x (.int .u8 (l.getD j 0).toNat)):=by
 subst hi
 intro V a w Kc Q r hKc
 unfold Oper.wp execOp
 have hg:(bs l)[j]?=some l[j]:=by rw [getElem?_pos (bs l) j (by simpa using h1)];simp
 have hrun:(Instr.index t (.string (bs l)) (.int k (j:Int))).run P w=.ok (.int .u8 (l.getD j 0).toNat) w:=by simp [Instr.index,asIntOf,run_underlying ht,hg,h1,List.getD]
 simp only [ho,r.evx (by simp [ho,Op.operands]) hx,r.evx (by simp [ho,Op.operands]) hy,hrun,Sem.run_bind,Sem.run_pure,Result.andThen_ok,Oper.upon]
 exact hKc _ _ (Below.refl _ _) (by rw [Den])
theorem Xcj {ρ:Operand→AV} (t:TypeId) (x:Operand) (lo hi:Option Operand) (l h:Nat) (s:List UInt8) (ho:o.op=.slice t x lo hi none) (hx:ρ x=.x (.string (bs s))) (ht:P.underlying t=some .string)
  (hlo:(lo=none∧l=0)∨∃y k,lo=some y∧ρ y=.x (.int k l)) (hhi:(hi=none∧h=s.length)∨∃y k,hi=some y∧ρ y=.x (.int k h)) (h1:l≤h) (h2:h≤s.length):Evl P o ρ H (.x (.string (bs ((s.take h).drop l)))):=by
 intro V a w Kc Q r hKc
 have he:(bs s).extract l h=bs ((s.take h).drop l):=by
  apply ByteArray.ext;apply Array.toList_inj.1
  simp [bs,ByteArray.data_extract,List.extract_eq_take_drop,List.drop_take]
 have hrun:(Instr.sliceAt t (.string (bs s)) (lo.map a.eval) (hi.map a.eval) none).run P w=.ok (.string (bs ((s.take h).drop l))) w:=by
  rw [←he]
  rcases hlo with ⟨rfl,rfl⟩|⟨y,k,rfl,hy⟩<;>rcases hhi with ⟨rfl,rfl⟩|⟨z,k',rfl,hz⟩<;>
   (try rw [Option.map_some,r.evx (by simp [ho,Op.operands]) hy])<;>(try rw [Option.map_some,r.evx (by simp [ho,Op.operands]) hz])<;>
   simp [Instr.sliceAt,run_underlying ht,Instr.slice,Instr.sliceBounds,Instr.sliceBound,asIntOf,h1,h2]
 unfold Oper.wp execOp
 simp only [ho,r.evx (by simp [ho,Op.operands]) hx,Option.map_none,hrun,Sem.run_bind,Sem.run_pure,Result.andThen_ok,Oper.upon]
 exact hKc _ _ (Below.refl _ _) (by rw [Den])
theorem XcG {ρ:Operand→AV} (t e:TypeId) (x:Operand) (lo hi:Option Operand) (size n l h:Nat) (cells:List AV) (ho:o.op=.slice t x lo hi none) (hx:ρ x=.sq n cells) (ht:elT P t=some (e,size))
  (hlo:(lo=none∧l=0)∨∃y k,lo=some y∧ρ y=.x (.int k l)) (hhi:(hi=none∧h=n)∨∃y k,hi=some y∧ρ y=.x (.int k h)) (h1:l≤h) (h2:h≤n):Evl P o ρ H (.sq (h - l) ((cells.drop (l*size)).take ((h - l)*size))):=by
 intro V a w Kc Q r hKc
 have hd:=r.ops x (by simp [ho,Op.operands,Call.operands])
 rw [hx,Den] at hd
 obtain ⟨ad,cap,vals,hv,h3,h4,h5,hm,hl⟩:=hd
 have hrun:=XgG (P:=P) t e size ht ad n cap (lo.map a.eval) (hi.map a.eval) l h (by
  rcases hlo with ⟨rfl,rfl⟩|⟨y,k,rfl,hy⟩
  ·exact .inl ⟨rfl,rfl⟩
  ·exact .inr ⟨k,by rw [Option.map_some,r.evx (by simp [ho,Op.operands]) hy]⟩) (by
  rcases hhi with ⟨rfl,rfl⟩|⟨y,k,rfl,hy⟩
  ·exact .inl ⟨rfl,rfl⟩
  ·exact .inr ⟨k,by rw [Option.map_some,r.evx (by simp [ho,Op.operands]) hy]⟩) h1 (by omega) w
 unfold Oper.wp execOp
 simp only [ho,hv,Option.map_none,hrun,Sem.run_bind,Sem.run_pure,Result.andThen_ok,Oper.upon]
 refine hKc _ _ (Below.refl _ _) ?_
 rw [Den]
 refine ⟨_,_,(vals.drop (l*size)).take ((h - l)*size),rfl,by omega,by omega,?_,?_,(hl.drop _).take _⟩
 ·intro he
  split at he
  ·omega
  ·cases ad with
   | none=>have:=h5 rfl;omega
   | some y=>simp at he
 ·rcases hm with rfl|⟨b,off,rfl,hb,hc⟩
  ·exact .inl (by simp)
  ·split
   ·rename_i hcl
    refine .inl ?_
    have:h - l=0:=by omega
    simp [this]
   ·simp only [Option.map_some,Xck]
    exact (Mem.drop (.inr ⟨b,off,rfl,hb,hc⟩) _).take _
theorem Xa3 {c:Code} {Q:Xb9} (e:TypeId) (size:Nat) (h:awp P c Q T (.row none 0 0 e size [] :: H)):awp P c Q T H:=fun Δ V O w0 a w r=>
 h Δ V O w0 a w (Rel.new r (Below.refl _ _) _ (fun k hk=>by cases hk) ⟨[],by rw [DenL],World.ownsRow_nil _ _ _ _,by simp⟩)
/-! ### append -/
theorem Xiv (w:World) (t ty e:TypeId) (z:Value) (size bytes:Nat) (hE:Xee P t e z size bytes) (ad:Option Addr) (n cap0:Nat) (xs:List Value) (hown:w.ownsRow 0 e size (.slice ad n cap0) n xs)
  (u:Value) (m:Nat) (news:List Value) (ad2:Option Addr) (cap2:Nat) (hu:u=.slice ad2 m cap2) (hn2:m≤cap2) (h02:ad2=none→cap2=0) (hl:news.length=m*size) (h1:∀u∈news,u.oneCell'=true)
  (hnews:∀x,ad2=some x→∀j u,news[j]?=some u→w.cell? (x.add j)=some u) (hf:XsU (n+m) bytes) :
  ∃ad' cap' w',(Builtin.append_ #[t,t] ty #[.slice ad n cap0,u]).run P w=.ok (.slice ad' (n+m) cap') w'∧w'.ownsRow 0 e size (.slice ad' (n+m) cap') (n+m) (xs++news)∧w.grownBy w' (Value.slice ad n cap0).ownBlock∧∀x,ad'=some x→ad=some x∨x.block=w.heap.size:=by
 obtain ⟨i,hi,hz,hsize,hby⟩:=info_parts hE.info
 subst hu
 cases ad2 with
 | none=>
   have hc:=h02 rfl
   subst hc
   have hm:m=0:=by omega
   subst hm
   have:news=[]:=List.eq_nil_of_length_eq_zero (by simpa using hl)
   subst this
   have hrun:=run_append_owned_none (P:=P) (w:=w) 0 t ty e i size hE.under hi (.slice ad n cap0) n xs hown
   exact ⟨ad,cap0,w,hrun,by rw [List.append_nil];exact hown,World.grownBy.refl _ _,fun x hx=>.inl hx⟩
 | some a=>
   have hnews:=hnews a rfl
   obtain ⟨v',w',hrun,g1,g2,g3⟩:=run_append_own (P:=P) (w:=w) 0 t ty e i z size bytes hE.under hi hz hsize hby hE.zs hE.pos (.slice ad n cap0) n xs hown a m cap2 news hl hnews h1 hf.2 hf.1 (Nat.zero_le _)
   obtain ⟨ad',cap',rfl,_⟩:=(Sl.own g1).shape
   refine ⟨ad',cap',w',hrun,g1,g2,fun x hx=>?_⟩
   subst hx
   have hF:=hf
   unfold XsU at hF
   have hsm:n+m≤9223372036854775807:=by have:=hF.2;unfold maxLen at this;omega
   rcases hown.2 with ⟨e1,rfl⟩|⟨g,cap1,cur,e1,hbg,hg,hnc,hcm,hcs,htake⟩
   ·cases e1
    by_cases hm:m=0
    ·have:=g3.2 ⟨rfl,hm⟩;cases this
    ·have hr:=run_append_nil (P:=P) (w:=w) t ty e i z hE.under hi hz a m cap2 news (by rw [hl,hsize]) hnews (by omega) (by omega) (by rw [hby];have:=hF.1;rw [Nat.zero_add] at this;omega)
     rw [hr] at hrun
     simp only [Result.ok.injEq,Value.slice.injEq,Option.some.injEq] at hrun
     exact .inr (by rw [←hrun.1.1])
   ·simp only [Value.slice.injEq] at e1
    obtain ⟨rfl,-,rfl⟩:=e1
    by_cases hroom:n+m≤cap0
    ·have hr:=run_append_room (P:=P) (w:=w) t ty e i hE.under hi g n cap0 cur hg a m cap2 news (by rw [hl,hsize]) hnews h1 hroom (by rw [hsize,hl,hcs,←Nat.add_mul];exact Nat.mul_le_mul_right _ hroom)
     rw [hr] at hrun
     simp only [Result.ok.injEq,Value.slice.injEq,Option.some.injEq] at hrun
     exact .inl (by rw [←hrun.1.1])
    ·have hC:=World.ownsRow.cells hown (g:=g) rfl
     have hr:=run_append_grow (P:=P) (w:=w) t ty e i z hE.under hi hz ⟨g,0,none⟩ n cap0 xs (by rw [hsize];exact hown.1) hC a m cap2 news (by rw [hl,hsize]) hnews (by omega) (by omega) (growslice_fits (by omega) (by rw [hby];exact hF.1))
     rw [hr] at hrun
     simp only [Result.ok.injEq,Value.slice.injEq,Option.some.injEq] at hrun
     exact .inr (by rw [←hrun.1.1])
def Src (ρ:Operand→AV) (H:List Hp) (x:Operand) (m:Nat) (news:List AV):Prop:=
 ρ x=.sq m news∨(ρ x=.x (.slice none 0 0)∧m=0∧news=[])∨(∃(q:Nat) (ad:Option Addr) (cap:Nat) (e:TypeId) (size:Nat),ρ x=.x (.slice ad m cap)∧H[q]?=some (.row ad m cap e size news)) ∨
  ∃(q b off c:Nat) (cells:List AV),ρ x=.x (.slice (some ⟨b,off,none⟩) m c)∧H[q]?=some (.box b cells)∧m≤c∧c≤maxLen∧news=(cells.drop off).take m
theorem Src.sq {ρ:Operand→AV} {x:Operand} {m:Nat} {news:List AV} (h:ρ x=.sq m news):Src ρ H x m news:=.inl h
theorem Src.row {ρ:Operand→AV} {x:Operand} {m:Nat} {news:List AV} (q:Nat) {ad:Option Addr} {cap:Nat} {e:TypeId} {size:Nat} (h:ρ x=.x (.slice ad m cap)) (hq:H[q]?=some (.row ad m cap e size news)):Src ρ H x m news:=.inr (.inr (.inl ⟨q,ad,cap,e,size,h,hq⟩))
theorem Src.part {ρ:Operand→AV} {H:List Hp} {x:Operand} (q:Nat) {b off c m:Nat} {cells news:List AV} (h:ρ x=.x (.slice (some ⟨b,off,none⟩) m c)) (hq:H[q]?=some (.box b cells)) (h1:m≤c) (h2:c≤maxLen) (h4:news=(cells.drop off).take m):Src ρ H x m news:=.inr (.inr (.inr ⟨q,b,off,c,cells,h,hq,h1,h2,h4⟩))
theorem OK.src {ρ:Operand→AV} (r:OK V H ρ o a w) {x:Operand} (hx:x∈o.op.operands) {m:Nat} {news:List AV} (h:Src ρ H x m news):∃ad cap vals,a.eval x=.slice ad m cap∧m≤cap∧cap≤maxLen∧(ad=none→cap=0)∧DenL (FB V H) w news vals∧(∀u∈vals,u.oneCell'=true) ∧
  (vals=[]∨∃b off,ad=some ⟨b,off,none⟩∧∀j u,vals[j]?=some u→w.cell? ⟨b,off+j,none⟩=some u):=by
 rcases h with h|⟨h,rfl,rfl⟩|⟨q,ad,cap,e,size,h,hq⟩|⟨q,b,off,c,cells,h,hq,k1,k2,rfl⟩
 ·have hd:=r.ops x hx
  rw [h,Den] at hd
  obtain ⟨ad,cap,vals,hv,h3,h4,h5,hm,hl⟩:=hd
  rcases hm with rfl|⟨b,off,rfl,hb,hc⟩
  ·exact ⟨ad,cap,[],hv,h3,h4,h5,hl,by simp,.inl rfl⟩
  ·refine ⟨_,cap,vals,hv,h3,h4,h5,hl,fun u hu=>?_,.inr ⟨b,off,rfl,fun j u hj=>(hc j u hj).1⟩⟩
   obtain ⟨j,hj,rfl⟩:=List.getElem_of_mem hu
   exact (hc j _ (by simp [hj])).2
 ·exact ⟨none,0,[],r.evx hx h,Nat.le_refl _,Nat.zero_le _,fun _=>rfl,by rw [DenL],by simp,.inl rfl⟩
 ·obtain ⟨vals,hd,hown,h1⟩:=r.hp q _ hq
  rcases hown.2 with ⟨e1,rfl⟩|⟨g,cap1,cur,e1,hbg,hg,hnc,hcm,hcs,htake⟩
  ·cases e1
   have:vals=[]:=List.eq_nil_of_length_eq_zero (by simpa using hown.1)
   subst this
   exact ⟨none,0,[],r.evx hx h,Nat.le_refl _,Nat.zero_le _,fun _=>rfl,hd,by simp,.inl rfl⟩
  ·simp only [Value.slice.injEq] at e1
   obtain ⟨rfl,-,rfl⟩:=e1
   refine ⟨_,cap,vals,r.evx hx h,hnc,hcm,fun h=>(by cases h),hd,h1,.inr ⟨g,0,rfl,fun j u hj=>?_⟩⟩
   have:=hown.cells (g:=g) rfl j u hj
   rwa [Xck] at this
 ·obtain ⟨vals,hd,hl,hc⟩:=r.hp q _ hq
  have hone:∀u∈vals,u.oneCell'=true:=fun u hu=>by
   obtain ⟨j,hj,rfl⟩:=List.getElem_of_mem hu
   exact (hc j _ (by simp [hj])).2.1
  refine ⟨_,c,(vals.drop off).take m,r.evx hx h,k1,k2,fun h=>(by cases h),(hd.drop off).take m,fun u hu=>hone u (List.mem_of_mem_drop (List.mem_of_mem_take hu)),.inr ⟨b,off,rfl,fun j u hj=>?_⟩⟩
  rw [List.getElem?_take] at hj
  split at hj
  ·rw [List.getElem?_drop] at hj
   exact (hc (off+j) u hj).1
  ·cases hj
theorem Xcy (p:Nat) (s x:Operand) (t e:TypeId) (z:Value) (size bytes:Nat) (ad:Option Addr) (n cap m:Nat) (cells news:List AV) (ho:o.op=.call { callee:=.builtin .append,args:=#[s,x],argTypes:=#[t,t] }) (hs:ev T s=.x (.slice ad n cap)) (hp:H[p]?=some (.row ad n cap e size cells))
  (hx:Src (ev T) H x m news) (hE:Xee P t e z size bytes) (hl:news.length=m*size) (hf:XsU (n+m) bytes)
  (hK:∀ad' cap',K (Xa9 T o.dst (.x (.slice ad' (n+m) cap'))) (H.set p (.row ad' (n+m) cap' e size (cells++news)))):Stp P o T H K:=by
 intro Δ V O w0 a w Kc Q r hKc
 obtain ⟨vals,hd,hown,h1⟩:=r.hp p _ hp
 obtain ⟨ad2,cap2,vals2,hv2,hn2,hc2,h02,hd2,h12,hm2⟩:=(r.oks o).src (by simp [ho,Op.operands,Call.operands]) hx
 obtain ⟨ad',cap',w',hrun,g1,g2,g3⟩:=Xiv (P:=P) w t o.type e z size bytes hE ad n cap vals hown (a.eval x) m vals2 ad2 cap2 hv2 hn2 h02 (by rw [hd2.len,hl]) h12 (fun y hy j u hj=>by
  rcases hm2 with rfl|⟨b,off,rfl,hc⟩
  ·simp at hj
  ·cases hy;rw [Xck];exact hc j u hj) hf
 unfold Oper.wp execOp
 simp only [ho,resolve,invoke,builtin,Sem.run_bind,Sem.run_pure,Result.andThen_ok,List.map_toArray,Xyt,Xyx,r.evx hs,hrun,Oper.upon]
 have hob:(Value.slice ad n cap).ownBlock=ad.map (·.block):=by cases ad<;>rfl
 have hw:∀k,k < w.heap.size→(Hp.row ad n cap e size cells).blk≠some k→w'.heap[k]?=w.heap[k]?:=fun k hk hn=>g2.block k hk fun e=>hn (by rw [hob] at e;exact e.symm)
 have hlt:∀k,(Hp.row ad' (n+m) cap' e size (cells++news)).blk=some k→k < w'.heap.size∧((Hp.row ad n cap e size cells).blk=some k∨w.heap.size≤k):=by
  intro k hk
  refine ⟨(g1.lt k (by simp only [Hp.blk] at hk;cases ad' with|none=>simp at hk|some y=>simpa [Value.ownBlock] using hk)).2,?_⟩
  cases ad' with
  | none=>simp [Hp.blk] at hk
  | some y=>
    simp [Hp.blk] at hk
    subst hk
    rcases g3 y rfl with rfl|e
    ·exact .inl rfl
    ·exact .inr (by omega)
 refine hKc _ _ _ _ (hK ad' cap') (Rel.put (Rel.turnAt (y:=.row ad' (n+m) cap' e size (cells++news)) r p hp g2.os g2.tape g2.output g2.size hw hlt ?_) _ (by rw [Den]))
 have hF:∀k,FB V (H.set p (.row ad' (n+m) cap' e size (cells++news))) k→FB V H k∨w.heap.size≤k:=by
  intro k hk
  rcases hk with hk|⟨y,hy,e⟩
  ·exact .inl (.inl hk)
  ·rcases List.mem_or_eq_of_mem_set hy with hy|rfl
   ·exact .inl (.inr ⟨y,hy,e⟩)
   ·rcases (hlt k e).2 with h|h
    ·exact .inl (.inr ⟨_,List.mem_of_getElem? hp,h⟩)
    ·exact .inr h
 have hw':∀k,k < w.heap.size→¬FB V H k→w'.heap[k]?=w.heap[k]?:=fun k hk hn=>hw k hk fun e=>hn (.inr ⟨_,List.mem_of_getElem? hp,e⟩)
 exact ⟨vals++vals2,(DenL.conv hF hw' _ _ hd).app (DenL.conv hF hw' _ _ hd2),g1,fun u hu=>by
  rcases List.mem_append.1 hu with h|h
  ·exact h1 u h
  ·exact h12 u h⟩
end
open Go.RowKit
/-! ### Forgetting -/
mutual
inductive Vw (D:List Hp):AV→AV→Prop
 | refl (av:AV):Vw D av av
 | top (av:AV):Vw D av .top
 | row {ad:Option Addr} {n cap:Nat} {e:TypeId} {size:Nat} {cells cells':List AV}:.row ad n cap e size cells∈D→VwL D cells cells'→Vw D (.x (.slice ad n cap)) (.sq n cells')
 | nil:Vw D (.x (.slice none 0 0)) (.sq 0 [])
 | box {b:Nat} {cells cells':List AV}:.box b cells∈D→VwL D cells cells'→Vw D (.x (.pointer (some ⟨b,0,none⟩))) (.at_ cells')
 | sq {n:Nat} {l l':List AV}:VwL D l l'→Vw D (.sq n l) (.sq n l')
 | agg {l l':List AV}:VwL D l l'→Vw D (.agg l) (.agg l')
 | aggx {l:List Value} {l':List AV}:VwL D (l.map .x) l'→Vw D (.x (.agg l.toArray)) (.agg l')
 | xagg {l:List Value}:Vw D (.agg (l.map .x)) (.x (.agg l.toArray))
 | tup {l l':List AV}:VwL D l l'→Vw D (.tup l) (.tup l')
 | tupx {l:List Value} {l':List AV}:VwL D (l.map .x) l'→Vw D (.x (.tuple l.toArray)) (.tup l')
 | xtup {l:List Value}:Vw D (.tup (l.map .x)) (.x (.tuple l.toArray))
 | ifc {t:TypeId} {v v':AV}:Vw D v v'→Vw D (.ifc t v) (.ifc t v')
inductive VwL (D:List Hp):List AV→List AV→Prop
 | nil:VwL D [] []
 | cons {a a':AV} {l l':List AV}:Vw D a a'→VwL D l l'→VwL D (a :: l) (a' :: l')
end
theorem VwL.refl (D:List Hp):∀l,VwL D l l
 | []=>.nil
 | a :: l=>.cons (.refl a) (VwL.refl D l)
section
variable {F F':Nat→Prop} {w:World} {D:List Hp}
mutual
theorem Vw.den (hF:∀k,F' k→F k) (hD:∀h∈D,XgS F w h∧∀k,h.blk=some k→¬F' k):∀{av av':AV},Vw D av av'→∀v,Den F w av v→Den F' w av' v
 | _,_,.refl av,v,h=>h.weak hF
 | _,_,.top av,v,h=>by rw [Den];trivial
 | _,_,.row (ad:=ad) (n:=n) (cap:=cap) hm hl,v,h=>by
   have h:v=.slice ad n cap:=by have:=h;simp only [Den] at this;exact this
   subst h
   obtain ⟨⟨vals,hd,hown,h1⟩,hb⟩:=hD _ hm
   show Den F' w (.sq n _) _
   simp only [Den]
   rcases hown.2 with ⟨e1,rfl⟩|⟨g,cap1,cur,e1,hbg,hg,hnc,hcm,hcs,htake⟩
   ·cases e1
    exact ⟨none,0,vals,rfl,Nat.le_refl _,Nat.zero_le _,fun _=>rfl,.inl (List.eq_nil_of_length_eq_zero (by simpa using hown.1)),VwL.den hF hD hl _ hd⟩
   ·simp only [Value.slice.injEq] at e1
    obtain ⟨rfl,-,rfl⟩:=e1
    refine ⟨_,_,vals,rfl,hnc,hcm,fun h=>(by cases h),.inr ⟨g,0,rfl,hb g rfl,fun j u hj=>⟨?_,h1 u (List.mem_of_getElem? hj)⟩⟩,VwL.den hF hD hl _ hd⟩
    have:=hown.cells (g:=g) rfl j u hj
    rwa [Xck] at this
 | _,_,.box (b:=b) hm hl,v,h=>by
   have h:v=.pointer (some ⟨b,0,none⟩):=by have:=h;simp only [Den] at this;exact this
   subst h
   obtain ⟨⟨vals,hd,hlt,hc⟩,hb⟩:=hD _ hm
   show Den F' w (.at_ _) _
   simp only [Den]
   exact ⟨b,0,vals,rfl,.inr ⟨b,0,rfl,hb b rfl,fun j u hj=>by have:=hc j u hj;rw [Nat.zero_add];exact ⟨this.1,this.2.1⟩⟩,VwL.den hF hD hl _ hd⟩
 | _,_,.nil,v,h=>by
   have h:v=.slice none 0 0:=by have:=h;simp only [Den] at this;exact this
   subst h
   show Den F' w (.sq 0 []) _
   simp only [Den]
   exact ⟨none,0,[],rfl,Nat.le_refl _,Nat.zero_le _,fun _=>rfl,.inl rfl,by rw [DenL]⟩
 | _,_,.sq hl,v,h=>by
   rw [Den] at h ⊢
   obtain ⟨ad,cap,vals,h1,h2,h3,h4,h5,h6⟩:=h
   exact ⟨ad,cap,vals,h1,h2,h3,h4,h5.conv (fun k hk=>.inl (hF k hk)) (fun _ _ _=>rfl),VwL.den hF hD hl _ h6⟩
 | _,_,.agg hl,v,h=>by
   rw [Den] at h ⊢
   obtain ⟨vals,h1,h6⟩:=h
   exact ⟨vals,h1,VwL.den hF hD hl _ h6⟩
 | _,_,.aggx (l:=l) hl,v,h=>by
   rw [Den] at h;subst h
   rw [Den]
   exact ⟨l,rfl,VwL.den hF hD hl _ DenL.exact⟩
 | _,_,.xagg (l:=l),v,h=>by
   simp only [Den] at h
   obtain ⟨vals,h1,h6⟩:=h
   rw [h6.exact'] at h1
   simp only [Den]
   exact h1
 | _,_,.tup hl,v,h=>by
   rw [Den] at h ⊢
   obtain ⟨vals,h1,h6⟩:=h
   exact ⟨vals,h1,VwL.den hF hD hl _ h6⟩
 | _,_,.tupx (l:=l) hl,v,h=>by
   rw [Den] at h;subst h
   rw [Den]
   exact ⟨l,rfl,VwL.den hF hD hl _ DenL.exact⟩
 | _,_,.xtup (l:=l),v,h=>by
   simp only [Den] at h
   obtain ⟨vals,h1,h6⟩:=h
   rw [h6.exact'] at h1
   simp only [Den]
   exact h1
 | _,_,.ifc hv,v,h=>by
   rw [Den] at h ⊢
   obtain ⟨u,h1,h2⟩:=h
   exact ⟨u,h1,Vw.den hF hD hv _ h2⟩
theorem VwL.den (hF:∀k,F' k→F k) (hD:∀h∈D,XgS F w h∧∀k,h.blk=some k→¬F' k):∀{l l':List AV},VwL D l l'→∀vs,DenL F w l vs→DenL F' w l' vs
 | _,_,.nil,vs,h=>by rw [DenL] at h ⊢;exact h
 | _,_,.cons h1 h2,vs,h=>by
   rw [DenL] at h ⊢
   obtain ⟨u,us,e,g1,g2⟩:=h
   exact ⟨u,us,e,Vw.den hF hD h1 _ g1,VwL.den hF hD h2 _ g2⟩
end
inductive VwH (D:List Hp):Hp→Hp→Prop
 | box (b:Nat) {l l':List AV}:VwL D l l'→VwH D (.box b l) (.box b l')
 | row (ad:Option Addr) (n cap:Nat) (e:TypeId) (size:Nat) {l l':List AV}:VwL D l l'→VwH D (.row ad n cap e size l) (.row ad n cap e size l')
 | rowbox (g n cap:Nat) (e:TypeId) (l:List AV):VwH D (.row (some ⟨g,0,none⟩) n cap e 1 l) (.box g l)
 | map (b:Nat) (l:List (Value × Value)):VwH D (.map b l) (.map b l)
 | sen (ad:Nat→Addr):VwH D (.sen ad) (.sen ad)
theorem VwH.refl (D:List Hp):∀h,VwH D h h
 | .box b l=>.box b (VwL.refl D l)
 | .row ..=>.row _ _ _ _ _ (VwL.refl D _)
 | .map ..=>.map _ _
 | .sen _=>.sen _
theorem VwH.blk {D:List Hp} {h h':Hp} (x:VwH D h h'):h'.blk=h.blk:=by cases x<;>rfl
theorem VwH.ok (hF:∀k,F' k→F k) (hD:∀h∈D,XgS F w h∧∀k,h.blk=some k→¬F' k) {h h':Hp} (x:VwH D h h') (ho:XgS F w h):XgS F' w h':=by
 cases x with
 | box b hl=>obtain ⟨vals,h1,h2⟩:=ho;exact ⟨vals,hl.den hF hD _ h1,h2⟩
 | row ad n cap e size hl=>obtain ⟨vals,h1,h2⟩:=ho;exact ⟨vals,hl.den hF hD _ h1,h2⟩
 | map b l=>exact ho
 | sen ad=>exact ⟨ho.1,fun k hk hf=>ho.2 k hk (hF k hf)⟩
 | rowbox g n cap e l=>
   obtain ⟨vals,h1,hown,hone⟩:=ho
   rcases hown.2 with ⟨e1,_⟩|⟨g',cap1,cur,e1,hbg,hg,hnc,hcm,hcs,htake⟩
   ·cases e1
   ·have e2:=e1
    simp only [Value.slice.injEq,Option.some.injEq,Addr.mk.injEq] at e2
    obtain ⟨⟨rfl,-,-⟩,-,rfl⟩:=e2
    refine ⟨vals,h1.weak hF,(Array.getElem?_eq_some_iff.1 hg).1,fun j u hj=>⟨?_,hone u (List.mem_of_getElem? hj),?_⟩⟩
    ·have:=hown.cells (g:=g) rfl j u hj
     rwa [Xck,Nat.zero_add] at this
    ·simp [World.frozen?,hg]
inductive Xak (D:List Hp):List Hp→List Hp→Prop
 | nil:Xak D [] []
 | cons {a a':Hp} {l l':List Hp}:VwH D a a'→Xak D l l'→Xak D (a :: l) (a' :: l')
theorem Xak.refl (D:List Hp):∀l,Xak D l l
 | []=>.nil
 | a :: l=>.cons (.refl D a) (Xak.refl D l)
theorem Xak.mem {D H H':List Hp} (h:Xak D H H'):∀x∈H',∃y∈H,VwH D y x:=by
 induction h with
 | nil=>intro x hx;cases hx
 | cons h1 _ ih=>
   intro x hx
   rcases List.mem_cons.1 hx with rfl|hx
   ·exact ⟨_,by simp,h1⟩
   ·obtain ⟨y,hy,e⟩:=ih x hx;exact ⟨y,by simp [hy],e⟩
theorem Xak.apart {D H H':List Hp} (h:Xak D H H') (ha:H.Pairwise XsP):H'.Pairwise XsP:=by
 induction h with
 | nil=>exact .nil
 | cons h1 h2 ih=>
   obtain ⟨g1,g2⟩:=List.pairwise_cons.1 ha
   refine List.pairwise_cons.2 ⟨fun x hx k hk e=>?_,ih g2⟩
   obtain ⟨y,hy,hxy⟩:=h2.mem x hx
   exact g1 y hy k (h1.blk▸hk) (hxy.blk▸e)
end
section
variable {P:Program} {Δ:List Deferred} {V O:Nat→Prop} {w0 w w':World} {H H' D:List Hp} {T T':List AV} {a:Act} {o:Oper} {K:List AV→List Hp→Prop}
theorem Rel.forget (r:Rel Δ V O w0 H T a w) (R:List Hp) (hp:H.Perm (D++R)) (hH:Xak D R H') (hT:VwL D T T'):Rel Δ V O w0 H' T' a w:=by
 have r':=r.perm hp
 have hap:=List.pairwise_append.1 r'.hok.apart
 have hF:∀k,FB V H' k→FB V (D++R) k:=fun k hk=>hk.imp id fun ⟨x,hx,e⟩=>by
  obtain ⟨y,hy,hxy⟩:=hH.mem x hx
  exact ⟨y,by simp [hy],hxy.blk▸e⟩
 have hD:∀h∈D,XgS (FB V (D++R)) w h∧∀k,h.blk=some k→¬FB V H' k:=fun h hh=>⟨r'.hok.ok h (by simp [hh]),fun k hk hf=>by
  rcases hf with hv|⟨x,hx,e⟩
  ·exact (r'.hok.lt h (by simp [hh]) k hk).2 hv
  ·obtain ⟨y,hy,hxy⟩:=hH.mem x hx
   exact hap.2.2 h hh y hy k hk (hxy.blk▸e)⟩
 refine ⟨hT.den hF hD _ r'.tmps,⟨fun x hx=>?_,hH.apart hap.2.1,fun x hx k hk=>?_⟩,r'.fr,fun x hx k hk=>?_,r'.defers,r'.vlt,r'.gl⟩
 ·obtain ⟨y,hy,hxy⟩:=hH.mem x hx
  exact hxy.ok hF hD (r'.hok.ok y (by simp [hy]))
 ·obtain ⟨y,hy,hxy⟩:=hH.mem x hx
  exact r'.hok.lt y (by simp [hy]) k (hxy.blk▸hk)
 ·obtain ⟨y,hy,hxy⟩:=hH.mem x hx
  exact r'.own y (by simp [hy]) k (hxy.blk▸hk)
structure Xaj (H:List Hp) (T:List AV) (H':List Hp) (T':List AV):Prop where
 ex:∃D R,H.Perm (D++R)∧Xak D R H'∧VwL D T T'
theorem Xaj.mk' (D R:List Hp) (hp:H.Perm (D++R)) (hH:Xak D R H') (hT:VwL D T T'):Xaj H T H' T':=⟨D,R,hp,hH,hT⟩
theorem Rel.weaken (r:Rel Δ V O w0 H T a w) (h:Xaj H T H' T'):Rel Δ V O w0 H' T' a w:=by
 obtain ⟨D,R,hp,hH,hT⟩:=h.ex
 exact r.forget R hp hH hT
theorem Xqc {c:Code} {Q:Xb9} (h:Xaj H T H' T') (hc:awp P c Q T' H'):awp P c Q T H:=fun Δ V O w0 a w r=>hc Δ V O w0 a w (r.weaken h)
theorem XeI {ops:Array Oper} {rest:List Oper} {Q:Xb9} (h:Xaj H T H' T') (hc:Xe8 P ops Q rest T' H'):Xe8 P ops Q rest T H:=fun Δ V O w0 a w r=>hc Δ V O w0 a w (r.weaken h)
theorem Xah {S:Type} {c:Code} {Q:Xb9} (Tf:S→List AV) (Hf:S→List Hp) (Inv:S→Prop) (m:S→Nat) (s0:S) (h0:Xaj H T (Hf s0) (Tf s0)) (hi:Inv s0)
  (round:∀s,Inv s→awp P c (XbH (fun T' H'=>∃s',m s' < m s∧Inv s'∧Xaj H' T' (Hf s') (Tf s')) Q) (Tf s) (Hf s)):awp P (.loop c) Q T H:=by
 intro Δ V O w0 a w r
 have key:∀n s a w,m s=n→Inv s→Rel Δ V O w0 (Hf s) (Tf s) a w→∀(b:Frame) (k:List Item) (cs:List Frame),
   ∃e a' w',Xe9 Δ V O w0 Q e a' w'∧Arrives P (lone (b.at a (.code c :: .inLoop c :: k)) cs w) b k cs e a' w':=by
  intro n
  induction n using Nat.strongRecOn with
  | _ n ih=>
    intro s a w hn hI hr b k cs
    obtain ⟨e,a₁,w₁,⟨T1,H1,r1,q1⟩,harr⟩:=round s hI Δ V O w0 a w hr b (.inLoop c :: k) cs
    cases e with
    | normal=>
      obtain ⟨s',hlt,hI₁,hw⟩:=q1
      obtain ⟨e₂,a₂,w₂,hq₂,harr₂⟩:=ih (m s') (hn▸hlt) s' a₁ w₁ rfl hI₁ (r1.weaken hw) b k cs
      exact ⟨e₂,a₂,w₂,hq₂,.of_steps (Steps.trans harr (.one step_inLoop)) harr₂⟩
    | exit id=>exact ⟨_,a₁,w₁,⟨T1,H1,r1,q1⟩,.pass (x:=.inLoop c) rfl (fun _ _=>.inl (by simp)) harr⟩
    | goto l=>exact ⟨_,a₁,w₁,⟨T1,H1,r1,q1⟩,.pass (x:=.inLoop c) rfl (fun _ _=>.inl (by simp)) harr⟩
    | ret=>exact ⟨_,a₁,w₁,⟨T1,H1,r1,q1⟩,.pass (x:=.inLoop c) rfl (fun _ _=>.inl (by simp)) harr⟩
    | panic ch=>exact ⟨_,a₁,w₁,⟨T1,H1,r1,q1⟩,.pass (x:=.inLoop c) rfl (fun _ _=>.inl (by simp)) harr⟩
    | outgrown=>exact ⟨_,a₁,w₁,⟨T1,H1,r1,q1⟩,.pass (x:=.inLoop c) rfl (fun _ _=>.inl (by simp)) harr⟩
 intro b k cs
 obtain ⟨e,a',w',hq,harr⟩:=key _ s0 a w rfl hi (r.weaken h0) b k cs
 exact ⟨e,a',w',hq,.of_steps (.one step_loop) harr⟩
/-! ### Functions -/
def Xay (P:Program) (f:FuncId) (H:List Hp) (args:List AV) (Q:AV→List Hp→Prop):Prop:=
 ∀(V:Nat→Prop) (w:World) (vs:List Value),(∀k,V k→k < w.heap.size)→HOk V w H→DenL (FB V H) w args vs→GL (Xch H) w →
  Calls P f vs.toArray w fun e w'=>∃r H' v,Q r H'∧e=.returned v∧Den (FB V H') w' r v∧HOk V w' H'∧Fr (Xch H) w w'∧∀h∈H',∀k,h.blk=some k→Xch H k∨w.heap.size≤k
theorem Xay.mono {f:FuncId} {args:List AV} {Q Q':AV→List Hp→Prop} (h:Xay P f H args Q) (hq:∀r H',Q r H'→Q' r H'):Xay P f H args Q':=fun V w vs h1 h2 h3 h4=>
 (h V w vs h1 h2 h3 h4).mono fun e w' ⟨r,H',v,q,rest⟩=>⟨r,H',v,hq _ _ q,rest⟩
theorem Xea {Kc:Act→World→Prop} {Q:Exit→Act→World→Prop} {c:Operand} {args:Array Operand} {tys:Array TypeId} {f:FuncId} {fn:Func} {fs cs vs:Array Value} (ho:o.op=.call { callee:=.value c,args:=args,argTypes:=tys }) (hc:a.eval c=.func (.func f) fs cs)
  (hf:P.funcs[f]?=some fn) (hn:fn.name≠ "runtime.NumGoroutine") (hb:fn.body.isSome=true) (hv:fs++args.map a.eval++cs=vs)
  (h:Calls P f vs w fun e w'=>∃v,e=.returned v∧Kc (a.put o.dst v) w'):o.wp P a w Kc Q:=by
 have hrun:(execOp a.eval o).run P w=.ok (.enter f vs) w:=by
  cases hbb:fn.body with
  | none=>rw [hbb] at hb;cases hb
  | some c=>simp [execOp,ho,resolve,hc,Deferred.ofValue,invoke,callFunc,hf,hn,hbb,←hv]
 unfold Oper.wp
 rw [hrun]
 simp only [Oper.upon]
 refine h.mono ?_
 rintro e w' ⟨v,rfl,hk⟩
 exact hk
theorem XfS (r:Rel Δ V O w0 H T a w):∀l:List Operand,DenL (FB V H) w (l.map (ev T)) (l.map a.eval)
 | []=>by simp [DenL]
 | x :: l=>by simp only [Xyt];rw [DenL];exact ⟨_,_,rfl,r.ev x,XfS r l⟩
theorem Xau {c:Operand} {args:Array Operand} {tys:Array TypeId} {fs cs:Array Value} (f:FuncId) (fn:Func) (H1 R:List Hp) (avs:List AV) (Q:AV→List Hp→Prop) (ho:o.op=.call { callee:=.value c,args:=args,argTypes:=tys }) (hc:ev T c=.x (.func (.func f) fs cs))
  (hf:P.funcs[f]?=some fn) (hn:fn.name≠ "runtime.NumGoroutine") (hb:fn.body.isSome=true) (hp:H.Perm (H1++R)) (hargs:VwL [] (fs.toList.map .x++args.toList.map (ev T)++cs.toList.map .x) avs) (hS:Xay P f H1 avs Q)
  (hK:∀r H',Q r H'→K (Xa9 T o.dst r) (H'++R)):Stp P o T H K:=by
 intro Δ V O w0 a w Kc Qc r hKc
 have r1:=r.perm hp
 have hap:=List.pairwise_append.1 r1.hok.apart
 have hVF:∀k,FB (FB V R) H1 k↔FB V (H1++R) k:=fun k=>by
  simp only [FB,List.mem_append]
  constructor
  ·rintro ((h|⟨x,hx,e⟩)|⟨x,hx,e⟩)
   ·exact .inl h
   ·exact .inr ⟨x,.inr hx,e⟩
   ·exact .inr ⟨x,.inl hx,e⟩
  ·rintro (h|⟨x,hx|hx,e⟩)
   ·exact .inl (.inl h)
   ·exact .inr ⟨x,hx,e⟩
   ·exact .inl (.inr ⟨x,hx,e⟩)
 have hV:∀k,FB V R k→k < w.heap.size:=fun k hk=>by
  rcases hk with hk|⟨x,hx,e⟩
  ·exact Nat.lt_of_lt_of_le (r.vlt k hk) r.fr.size
  ·exact (r1.hok.lt x (by simp [hx]) k e).1
 have hH1:HOk (FB V R) w H1:=⟨fun x hx=>(r1.hok.ok x (by simp [hx])).weak fun k hk=>(hVF k).1 hk,hap.1,fun x hx k hk=>⟨(r1.hok.lt x (by simp [hx]) k hk).1,fun hv=>by
  rcases hv with hv|⟨y,hy,e⟩
  ·exact (r1.hok.lt x (by simp [hx]) k hk).2 hv
  ·exact hap.2.2 x hx y hy k hk e⟩⟩
 have hd:DenL (FB (FB V R) H1) w avs (fs.toList++args.toList.map a.eval++cs.toList):=hargs.den (fun k hk=>(hVF k).1 hk) (fun h hh=>by cases hh) _ ((DenL.exact.app (XfS r1 args.toList)).app DenL.exact)
 refine Xea ho (r.evx hc) hf hn hb (vs:=(fs.toList++args.toList.map a.eval++cs.toList).toArray) (by apply Array.toList_inj.1;simp) ?_
 refine (hS (FB V R) w _ hV hH1 hd (r1.gb.mono fun k ⟨x,hx,e⟩=>⟨x,by simp [hx],e⟩)).mono ?_
 rintro e w' ⟨res,H',v,hq,rfl,hdv,hok',hfr,hown⟩
 refine ⟨v,rfl,hKc _ _ _ _ (hK res H' hq) ?_⟩
 have hVF':∀k,FB (FB V R) H' k↔FB V (H'++R) k:=fun k=>by
  simp only [FB,List.mem_append]
  constructor
  ·rintro ((h|⟨x,hx,e⟩)|⟨x,hx,e⟩)
   ·exact .inl h
   ·exact .inr ⟨x,.inr hx,e⟩
   ·exact .inr ⟨x,.inl hx,e⟩
  ·rintro (h|⟨x,hx|hx,e⟩)
   ·exact .inl (.inl h)
   ·exact .inr ⟨x,hx,e⟩
   ·exact .inl (.inr ⟨x,hx,e⟩)
 have hF:∀k,FB V (H'++R) k→FB V (H1++R) k∨w.heap.size≤k:=fun k hk=>by
  rcases (hVF' k).2 hk with hk|⟨x,hx,e⟩
  ·exact .inl ((hVF k).1 (.inl hk))
  ·rcases hown x hx k e with ⟨y,hy,e'⟩|h
   ·exact .inl ((hVF k).1 (.inr ⟨y,hy,e'⟩))
   ·exact .inr h
 have hw:∀k,k < w.heap.size→¬FB V (H1++R) k→w'.heap[k]?=w.heap[k]?:=fun k hk hn=>hfr.block k hk fun ⟨y,hy,e⟩=>hn (.inr ⟨y,by simp [hy],e⟩)
 refine Rel.put (av:=res) (v:=v) ⟨DenL.conv hF hw _ _ r1.tmps,⟨fun x hx=>?_,List.pairwise_append.2 ⟨hok'.apart,hap.2.1,fun x hx y hy k hk e=>?_⟩,fun x hx k hk=>?_⟩,?_,fun x hx k hk=>?_,r.defers,r.vlt,r.gl⟩ _ (hdv.weak fun k hk=>(hVF' k).2 hk)
 ·rcases List.mem_append.1 hx with hx|hx
  ·exact (hok'.ok x hx).weak fun k hk=>(hVF' k).2 hk
  ·exact (r1.hok.ok x (by simp [hx])).conv hF hw hfr.size fun k hk=>hfr.block k (r1.hok.lt x (by simp [hx]) k hk).1 fun ⟨y,hy,e⟩=>hap.2.2 y hy x hx k e hk
 ·exact (hok'.lt x hx k hk).2 (.inr ⟨y,hy,e⟩)
 ·rcases List.mem_append.1 hx with hx|hx
  ·exact ⟨(hok'.lt x hx k hk).1,fun hv=>(hok'.lt x hx k hk).2 (.inl hv)⟩
  ·exact ⟨Nat.lt_of_lt_of_le (r1.hok.lt x (by simp [hx]) k hk).1 hfr.size,(r1.hok.lt x (by simp [hx]) k hk).2⟩
 ·refine r.fr.trans hfr fun k hk hb=>?_
  obtain ⟨y,hy,e⟩:=hb
  rcases r1.own y (by simp [hy]) k e with h|h
  ·exact h
  ·omega
 ·rcases List.mem_append.1 hx with hx|hx
  ·rcases hown x hx k hk with ⟨y,hy,e⟩|h
   ·exact r1.own y (by simp [hy]) k e
   ·exact .inr (Nat.le_trans r.fr.size h)
  ·exact r1.own x (by simp [hx]) k hk
end
end Go.Proofs.YtdlblokjfoggpaaGreatDoor
