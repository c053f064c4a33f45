/- The abstract executor of the program's form in Lean, shown sound: new blocks, cuts, appends, copies, conversions, ranges; every operation; calls. -/
import Derived.Test.YtaljafbgbfmcbaaGreatHistoryMadeAe2
import Derived.Laws.BytesString
namespace Go.Ae
open Go
variable {P:Program} {m:Mp} {D:Nat→Prop} {h h':AH} {w:World} {c:CV} {ρ:Operand→Value} {r:Operand→Option AV} {o:Oper} {v:AV}
theorem Nx (R:Rel P m D h w) {s:Sem Value} {b:cW} {ob_:Obj} {room:Nat} {z:AV} {w0:World}
  (hs:s.run P w=.ok (cv (λx=>if x=h.nx then(w.heap.size,room)else m x) z) w0)
  (ly:w0.heap=w.heap.push ob_) (CJ:w0.os=w.os) (lW:w0.tape=w.tape) (mY:w0.output=w.output)
  (hb:cM D b) (nQ:di P m b (w.heap.size,room) w0) (hz:br (λx=>x=h.nx∨D x) z) (lJ:∀t,b≠.dh t:=by intro t hh;cases hh) :
  dI P m D h w ((do pure (Next.value (← s)):Sem Next).run P w) z (h.new b):=by
 obtain⟨e,r'⟩:=R.new b ob_ room ly CJ lW mY hb nQ lJ;exact⟨_,_,w0,.inl (by simp_all),e,r',hz⟩
theorem kS (t:TypeId) (cs:Array Value):(newRow t cs).run P w=.ok ⟨w.heap.size,0,none⟩ { w with heap:=w.heap.push (.cells cs t) }:=rfl
theorem z5 {ct:CT} {cs:List AV} {t:TypeId} (mD:ct.toList=cs) (w0:World) (ly:w0.heap=w.heap.push (.cells (aQ m cs).toArray t)):di P m (.cells ct t false) (w.heap.size,0) w0:=by refine⟨[],(0,0),?_,λ_=>rfl,λi _=>by simp,λh=>by grind⟩;grind
theorem qj3 (R:Rel P m D h w) {x z:AV} {t:TypeId} (hx:br D x) (e:J4 h t x fin=some (z,h')) :
  dI P m D h w ((do pure (Next.value (← (do pure (.pointer (some (← newVar t (cv m x)))):Sem Value))):Sem Next).run P w) z h':=by
 unfold J4 at e;simp only[jL,qU]at e;obtain⟨_,rfl,rfl⟩:=e;refine Nx R (w0:={ w with heap:=w.heap.push (.cells (aQ m x.cells).toArray t) }) (room:=0) ?_ rfl rfl rfl rfl (by grind[cM,CT.aZ,k6]) (z5 (CT.aZ _) _ rfl) (.inl rfl);simp[newVar,w6,kS,cv]
theorem qzd {t:TypeId} (ho:o.op=.alloc t) (R:Rel P m D h w) (e:aX P c o.op r h fin=some (v,h')):dI P m D h w ((execOp ρ o).run P w) v h':=by
 rw[ho]at e;simp only[aX,qD]at e;obtain⟨z,hz,e⟩:=e;obtain⟨z1,z2⟩:=yI (w:=w) (m:=m) (D:=D) hz;have:=qj3 R z2 e;simp_all[execOp,Instr.alloc,pure,newVar]
theorem jZC {t:TypeId} {x:Operand} (ho:o.op=.box t x) (hr:dR m D ρ r) (R:Rel P m D h w) (e:aX P c o.op r h fin=some (v,h')):dI P m D h w ((execOp ρ o).run P w) v h':=by rw[ho]at e;simp only[aX,qD]at e;obtain⟨a,ha,e⟩:=e;obtain⟨a1,a2⟩:=hr _ _ ha;have:=qj3 R a2 e;simp only[execOp,ho,a1];trivial
theorem kQ {cl:Call} {b:Builtin} (ho:o.op=.call cl) (hc:cl.callee=.builtin b) :
  ∃cs,(execOp ρ o).run P w=(builtin b cl.argTypes o.type cs (cl.args.map ρ)).run P w:=by
 refine⟨cl.args.map fun | .const _=>true |_=>false,?_⟩;simp only[execOp,ho];have h1:(resolve ρ cl o.type).run P w=.ok { target:=.builtin b cl.argTypes o.type (cl.args.map fun | .const _=>true |_=>false),args:=cl.args.map ρ } w:=by unfold resolve;rw[hc];rfl
 rw[qV h1];rfl
theorem vN {α:Type} {a:Array α} {l:List α} (h:a.toList=l):a=l.toArray:=by grind
theorem jJU {cl:Call} (ho:o.op=.call cl) (hc:cl.callee=.builtin .len) (hr:dR m D ρ r) (R:Rel P m D h w) (e:aX P c o.op r h fin=some (v,h')):dI P m D h w ((execOp ρ o).run P w) v h':=by
 obtain⟨cs,hx⟩:=kQ (P:=P) (w:=w) (ρ:=ρ) ho hc;rw[ho]at e;simp only[aX,hc]at e
 split at e
 ·rename_i x xs t ts ha ht;simp only[qD]at e;obtain⟨a,mE,d,hd,e⟩:=e;obtain⟨a1,a2⟩:=hr _ _ mE;rw[hx,vN ha,vN ht]
  have cS:∀z,(∀u,P.underlying t=some u→(match u,cv m a with
    | .string,.string s=>(pure (goInt s.size):Sem Value)
    | .array n _,_=>pure (goInt n)
    | .pointer arr,_=>do
     let .array n _ ← underlying arr | stuck "len: pointer to array expected"
     pure (goInt n)
    | .slice _,.slice _ n _=>pure (goInt n)
    | .map _ _,.map none | .chan _ _,.chan none=>pure (goInt 0)
    | .map _ _,.map (some r)=>do
     let .map entries _ ← getObj r | stuck "len: map expected"
     pure (goInt entries.size)
    | .chan _ _,.chan (some r)=>do
     let .chan _ buf _ _ _ timer ← getObj r | stuck "len: channel expected"
     pure (goInt (if timer then 0 else buf.size))
    | _, _ => stuck "len: string, array, pointer to array, slice, map or channel expected").run P w = .ok z w) →
    (Builtin.len_ (t::ts).toArray o.type ((x::xs).toArray.map ρ)).run P w=.ok z w:=by
   intro z hz;unfold Builtin.len_;simp only[List.getElem?_toArray,List.getElem?_cons_zero,List.map_toArray,List.map_cons,a1];rw[qV (Ae.run_underlying hd)];grind
  have pi:∀n:Nat,v=.int .i64 (.ofNat n)→h=h'→(Builtin.len_ (t::ts).toArray o.type ((x::xs).toArray.map ρ)).run P w=.ok (goInt n) w→
    dI P m D h w ((builtin .len (t::ts).toArray o.type cs ((x::xs).toArray.map ρ)).run P w) v h':=by
   rintro n rfl rfl hl;exact zw R hl trivial
  cases d<;>simp only[reduceCtorEq]at e
  case string=>
   unfold YX at e
   split at e
   ·rename_i q;simp only[qU]at e;obtain⟨rfl,rfl⟩:=e;refine pi _ rfl rfl (cS _ λu hu=>?_);rw[hd]at hu;cases hu;rfl
   grind
  case array n el=>simp only[qU]at e;obtain⟨rfl,rfl⟩:=e;simp_all
  case slice el=>
   unfold kH at e
   split at e
   ·simp only[qU]at e;obtain⟨rfl,rfl⟩:=e;refine pi _ rfl rfl (cS _ λu hu=>?_);rw[hd]at hu;cases hu;rfl
   ·simp only[qU]at e;obtain⟨rfl,rfl⟩:=e;refine pi 0 rfl rfl (cS _ λu hu=>?_);rw[hd]at hu;cases hu;rfl
   ·simp only[qU]at e;obtain⟨rfl,rfl⟩:=e;refine pi 0 rfl rfl (cS _ λu hu=>?_);rw[hd]at hu;cases hu;rfl
   ·simp only[qU]at e;obtain⟨rfl,rfl⟩:=e;refine pi 0 rfl rfl (cS _ λu hu=>?_);rw[hd]at hu;cases hu;rfl
   grind
  case map kt et=>
   unfold NO at e
   split at e
   ·rename_i b
    split at e
    ·rename_i l q hg;simp only[qU]at e;obtain⟨rfl,rfl⟩:=e;obtain⟨x',lz,nQ,_⟩:=R.bR b a2;rw[hg]at lz;cases lz;have bF:w.heap[(m b).1]? =some (.map (l.map xA).toArray q):=nQ;refine pi l.length rfl rfl (cS _ λu hu=>?_);simp_all[cv,getObj,Sem.run]
    grind
   grind
 grind
theorem qyF {mx:Bool} {a b z:AV} (e:Fz mx a b=some z):((match mx with |true=>Builtin.max2 |false=>Builtin.min2) (cv m a) (cv m b)).run P w=.ok (cv m z) w∧MS z=true:=by
 unfold Fz at e
 split at e
 ·rename_i k x k' y;rw[jL]at e;obtain⟨hk,e⟩:=e;have hk:k=k':=by grind
  subst hk;simp only[Option.some.injEq]at e;subst e;cases mx
  ·simp only[cond_false,MK,cv];refine⟨?_,rfl⟩;simp[Builtin.min2]
  ·simp only[cond_true,MK,cv];refine⟨?_,rfl⟩;simp[Builtin.max2]
 grind
theorem qg5 {mx:Bool} {l:List AV} {a z:AV} (ha:MS a=true) (e:Cy mx a l=some z) :
  ((aQ m l).foldlM (match mx with |true=>Builtin.max2 |false=>Builtin.min2) (cv m a)).run P w=.ok (cv m z) w∧MS z=true:=by
 induction l generalizing a with
 |nil=>simp[Cy]at e;subst e;trivial
 |cons b l ih=>simp only[Cy,Option.bind_eq_some_iff]at e;grind[qyF,aQ,qV]
theorem jQ2 {cl:Call} {mx:Bool} (ho:o.op=.call cl) (hc:cl.callee=.builtin (match mx with |true=>.max |false=>.min)) (hr:dR m D ρ r) (R:Rel P m D h w) (e:aX P c o.op r h fin=some (v,h')):dI P m D h w ((execOp ρ o).run P w) v h':=by
 obtain⟨cs,hx⟩:=kQ (P:=P) (w:=w) (ρ:=ρ) ho hc;rw[ho]at e;have e':(ob (kX r cl.args.toList) λl=>rJ mx l λz=>fin z h)=some (v,h'):=by
  grind
 simp only[qD]at e';obtain⟨l,hl,e⟩:=e';obtain⟨l1,l2⟩:=Jg hr hl;unfold rJ at e
 split at e
 ·rename_i a q;simp only[jL,qD,qU]at e;obtain⟨hi,z,hz,rfl,rfl⟩:=e;obtain⟨z1,z2⟩:=qg5 (P:=P) (m:=m) (w:=w) hi hz;have hv:br D z:=by cases z<;>simp[MS]at z2;trivial
  rw[hx];have l7:(cl.args.map ρ).toList=cv m a::aQ m q:=by rw[Array.toList_map,l1];rfl
  cases mx
  ·refine zw R (s:=Builtin.min_ cl.argTypes o.type (cl.args.map ρ)) ?_ hv;grind[Builtin.min_]
  ·refine zw R (s:=Builtin.max_ cl.argTypes o.type (cl.args.map ρ)) ?_ hv;grind[Builtin.max_]
 grind
end Go.Ae
namespace Go.Ae
open Go
variable {P:Program} {m:Mp} {D:Nat→Prop} {h h':AH} {w:World} {c:CV} {ρ:Operand→Value} {r:Operand→Option AV} {o:Oper} {v:AV}
theorem UB {x:AV} {y n:Nat} {code:BoundsCode} (e:Z4 x y=some n):(Instr.sliceBound (cv m x) y code).run P w=.ok n w∧n≤y:=by
 unfold Z4 at e
 split at e
 ·rename_i k q;rw[jL]at e;obtain⟨hq,e⟩:=e;have hq:=zN hq;simp_all[Option.some.injEq,Instr.sliceBound,cv,asIntOf]
 grind
theorem Xf {isS:Bool} {len cap u l:Nat} {lo hi:Option AV} (hu:vI hi cap len=some u) (hl:vI lo u 0=some l) :
  (Instr.sliceBounds isS len cap (lo.map (cv m)) (hi.map (cv m)) none).run P w=.ok (l,u,cap) w∧(hi=none∨u≤cap)∧(l≤u)∧(hi=none→u=len):=by
 unfold Instr.sliceBounds;have h1:((pure cap:Sem Nat)).run P w=.ok cap w:=rfl;rw[qV h1];cases hi with
 |none=>
  simp only[vI,Option.some.injEq]at hu;subst hu;simp only[Option.map_none];rw[qV (show(pure len:Sem Nat).run P w=.ok len w from rfl)];cases lo with
  |none=>simp only[vI,Option.some.injEq]at hl;simp;omega
  |some x=>obtain⟨h2,h3⟩:=UB (P:=P) (m:=m) (w:=w) (code:=.sliceB) hl;simp_all
 |some y=>
  simp only[Option.map_some];obtain⟨h4,h5⟩:=UB (P:=P) (m:=m) (w:=w) (code:=if isS then .sliceAcap else .sliceAlen) hu;rw[qV h4];cases lo with
  |none=>simp only[vI,Option.some.injEq]at hl;simp;omega
  |some x=>obtain⟨h2,h3⟩:=UB (P:=P) (m:=m) (w:=w) (code:=.sliceB) hl;simp_all
theorem qz5 (hr:dR m D ρ r) {x:Option Operand} {y:Option AV} (e:G9 r x=some y):x.map ρ=y.map (cv m):=by
 cases x with
 |none=>grind[G9]
 |some x=>simp only[G9,Option.map_eq_some_iff]at e;obtain⟨a,ha,rfl⟩:=e;simp[(hr _ _ ha).1]
theorem qkT {t:TypeId} {x:Operand} {lo hi mx:Option Operand} (ho:o.op=.slice t x lo hi mx) (hr:dR m D ρ r) (R:Rel P m D h w) (e:aX P c o.op r h fin=some (v,h')):dI P m D h w ((execOp ρ o).run P w) v h':=by
 rw[ho]at e;cases mx<;>simp only[aX,reduceCtorEq]at e
 simp only[qD]at e;obtain⟨a,ha,Py,fh,sQ,l8,d,hd,e⟩:=e;obtain⟨a1,a2⟩:=hr _ _ ha;simp only[execOp,ho,a1,qz5 hr fh,qz5 hr l8,Option.map_none];cases d<;>simp only[reduceCtorEq]at e
 case string=>
  unfold XR at e
  split at e
  ·rename_i s;simp only[qD,qU]at e;obtain⟨u,hu,l,hl,t',ht,rfl,rfl⟩:=e;obtain⟨b1,_,b2,_⟩:=Xf (P:=P) (m:=m) (w:=w) (isS:=false) hu hl;refine zw R ?_ trivial;unfold Instr.sliceAt;rw[qV (Ae.run_underlying hd)];simp only[];unfold Instr.slice;rw[qV (Ae.run_underlying hd)];simp only[cv,Option.isSome_none,Bool.false_eq_true,if_false];have hs:(ByteArray.mk s.toArray).size=s.length:=by rfl
   rw[hs];rw[qV b1];simp only[wJ]
   congr 2
   rw[JL]at ht;obtain⟨t1,t2⟩:=k8 ht;subst t1;apply ByteArray.ext;simp
  grind
 case slice el=>
  simp only[qD]at e;obtain⟨sz,bz,e⟩:=e;have main:∀(A:Option Addr) (len cap u l:Nat) (z:AV),cv m a=.slice A len cap→vI sQ cap len=some u→vI Py u 0=some l→br D z→
    cv m z=.slice (if cap=l then A else A.map (·.add (l*sz))) (u-l) (cap-l)→dI P m D h w ((do pure (Next.value (← Instr.sliceAt t (cv m a) (Py.map (cv m)) (sQ.map (cv m)) none)):Sem Next).run P w) z h:=by
   intro A len cap u l z SA hu hl hz hcz;obtain⟨b1,_,b2,_⟩:=Xf (P:=P) (m:=m) (w:=w) (isS:=true) (len:=len) hu hl;refine zw R ?_ hz;simp_all[Instr.sliceAt,Ae.run_underlying,Instr.slice,Ae.run_sizeOf]
  unfold xC at e
  split at e
  ·rename_i b off len cap;simp only[qD,qU]at e;obtain⟨u,hu,l,hl,rfl,rfl⟩:=e;refine main _ len cap u l _ rfl hu hl a2 ?_;simp only[cv];cases dE:Nat.beq cap l
   all_goals simp_all[gZ,cond_false,Option.map_some,kc]
  ·rename_i b off len i0;simp only[jL,qD]at e;obtain⟨hf,u,hu,l,hl,e⟩:=e;unfold vJ at hf
   split at hf
   ·rename_i cs el' hg;simp only[Bool.and_eq_true]at hf;obtain⟨f0,f1,f2,f3⟩:=hf;have f0:=zF f0;have f1:=zN f1;have f2:=zF f2;have f3:=zN f3;subst f0;obtain⟨rest,fr,h1,h2,h3,h4,h5⟩:=R.cells a2 hg;obtain⟨h4a,h4b⟩:=h4 rfl sz bz;rw[CT.dD]at f3;have FR:i0+len≤(m b).2:=by
     have:(i0+len)*sz≤(m b).2*sz:=by grind
     exact Nat.le_of_mul_le_mul_right this f1
    have Pz:vI sQ ((m b).2-i0) len=some u:=by
     cases sQ with
     |none=>exact hu
     |some y=>
      simp only[vI,Z4]at hu ⊢
      split at hu
      ·rename_i k q;rw[jL]at hu ⊢;simp at*;omega
      grind
    have hule:u≤len:=by
     cases sQ with
     |none=>grind[vI,Option.some.injEq]
     |some y=>
      simp only[vI,Z4]at hu
      split at hu
      ·rw[jL]at hu;simp at*;omega
      grind
    cases fY:Nat.beq l 0
    ·have FT:=gZ fY;rw[fY]at e;simp only[cond_false]at e;cases Bt:Nat.ble (l+1) len
     ·rw[Bt]at e;simp only[cond_false,qU]at e;obtain⟨rfl,rfl⟩:=e;have Bt:¬l+1≤len:=λh=>by simp_all[iY]
      obtain⟨_,_,q1,_⟩:=Xf (P:=P) (m:=m) (w:=w) (isS:=true) (len:=len) Pz hl;refine main _ len _ u l _ rfl Pz hl a2 ?_;simp only[cv];have e1:u-l=0:=by omega
      rw[e1];by_cases hc:(m b).2=i0+l
      ·simp_all
      ·rw[iQ hc,iQ omQ];grind[kc]
     rw[Bt]at e;simp only[cond_true,qU]at e;obtain⟨rfl,rfl⟩:=e;have Bt:=zN Bt;refine main _ len _ u l _ rfl Pz hl a2 ?_;simp[cv,omQ,Option.map_some,kc];omega
    ·have FT:=zF fY;subst FT;rw[fY]at e;simp only[cond_true,qU]at e;obtain⟨rfl,rfl⟩:=e;refine main _ len _ u 0 _ rfl Pz hl a2 ?_;simp[cv,Addr.add]
   grind
  ·simp only[qD,qU]at e;obtain⟨u,hu,l,hl,rfl,rfl⟩:=e;have FU:u=0:=by
    cases sQ with
    |none=>grind[vI,Option.some.injEq]
    |some y=>
     simp only[vI,Z4]at hu
     split at hu
     ·rw[jL]at hu;simp at*;omega
     grind
   subst FU;have fY:l=0:=by
    cases Py with
    |none=>grind[vI,Option.some.injEq]
    |some y=>
     simp only[vI,Z4]at hl
     split at hl
     ·rw[jL]at hl;simp at*;omega
     grind
   subst fY;refine main none 0 0 0 0 .aj rfl hu hl trivial ?_;rfl
  ·simp only[qD,qU]at e;obtain⟨u,hu,l,hl,rfl,rfl⟩:=e;have FU:u=0:=by
    cases sQ with
    |none=>grind[vI,Option.some.injEq]
    |some y=>
     simp only[vI,Z4]at hu
     split at hu
     ·rw[jL]at hu;simp at*;omega
     grind
   subst FU;have fY:l=0:=by
    cases Py with
    |none=>grind[vI,Option.some.injEq]
    |some y=>
     simp only[vI,Z4]at hl
     split at hl
     ·rw[jL]at hl;simp at*;omega
     grind
   subst fY;refine main _ 0 0 0 0 (.bM _) rfl hu hl trivial ?_;rfl
  grind
 case array n el=>
  simp only[qD]at e;obtain⟨sz,bz,e⟩:=e;unfold YQ at e
  split at e
  ·rename_i b off;simp only[qD,qU]at e;obtain⟨u,hu,l,hl,rfl,rfl⟩:=e;obtain⟨b1,_,b2,_⟩:=Xf (P:=P) (m:=m) (w:=w) (isS:=false) (len:=n) hu hl;refine zw R ?_ a2;unfold Instr.sliceAt;rw[qV (Ae.run_underlying hd)];simp only[cv];rw[qV (show(Instr.sureAddr (.pointer (some ⟨(m b).1,off,none⟩))).run P w=.ok ⟨(m b).1,off,none⟩ w from rfl)];rw[qV b1];simp only[];rw[qV (Ae.run_sizeOf bz)];cases dE:Nat.beq n l
   all_goals simp_all[gZ,cond_false,kc,zF]
  grind
end Go.Ae
namespace Go.Ae
open Go
variable {P:Program} {m:Mp} {D:Nat→Prop} {h h':AH} {w:World} {c:CV} {ρ:Operand→Value} {r:Operand→Option AV} {o:Oper} {v:AV}
theorem qYf:∀(vs:List Value) (C:List Value) (off i:Nat),off+i+vs.length≤C.length→
  (vs.zipIdx i).foldl (λcs (p:Value×Nat)=>cs.setIfInBounds (off+p.2) p.1) C.toArray=(C.take (off+i)++vs++C.drop (off+i+vs.length)).toArray:=by
 intro vs
 induction vs with
 |nil=>simp
 |cons v vs ih=>
  intro C off i h;simp only[List.length_cons]at h;simp only[List.zipIdx_cons,List.foldl_cons];have e0:C.toArray.setIfInBounds (off+i) v=(C.set (off+i) v).toArray:=by simp
  rw[e0,ih _ off (i+1) (by grind)]
  congr 1
  have e1:(C.set (off+i) v).take (off+(i+1))=C.take (off+i)++[v]:=by grind[List.take_succ_eq_append_getElem,List.take_set_of_le]
  have e2:(C.set (off+i) v).drop (off+(i+1)+vs.length)=C.drop (off+i+(v::vs).length):=by
   rw[List.drop_set_of_lt omQ]
   grind
  grind
theorem NP (hr:dR m D ρ r) {pl:Nat→Option (Nat×Nat)} {l:List (Nat×Operand)} {vs:List (Nat×Nat×AV)} (e:yd pl r l=some vs) :
  ∀{z cs:List AV},gn z vs=some cs→aY D z→Instr.fill pl (aQ m z).toArray (l.map λp=>(p.1,ρ p.2))=some (aQ m cs).toArray∧aY D cs:=by
 induction l generalizing vs with
 |nil=>intro z cs e2 hz;simp[yd]at e;subst e;simp[gn]at e2;subst e2;trivial
 |cons p l ih=>
  obtain⟨i,x⟩:=p;intro z cs e2 hz;simp only[yd,Option.bind_eq_some_iff,Option.map_eq_some_iff]at e;obtain⟨q,hq,a,ha,s,hs,rfl⟩:=e;obtain⟨a1,a2⟩:=hr _ _ ha;simp only[gn,jL,Option.bind_eq_some_iff]at e2;obtain⟨hl,z',hz',e2⟩:=e2;have hl:=zF hl;obtain⟨e3,e4⟩:=Up hz';have uC:aY D z':=by grind[w8,XV,k6,GC]
  obtain⟨f1,f2⟩:=ih hs e2 uC;refine⟨?_,f2⟩;simp only[List.map_cons,Instr.fill,hq];have bz:(ρ x).cells.size=q.2:=by simp_all[w6]
  have bY:(decide ((ρ x).cells.size≠q.2)||decide (q.1+(ρ x).cells.size>(aQ m z).toArray.size))=false:=by simp_all
  simp only[bY,Bool.false_eq_true,if_false];rw[← f1]
  congr 1
  rw[a1,w6,← Array.foldl_toList];simp_all[qYf,ye]
theorem qXa {fs:List Field} {pl:List (Nat×Nat)} (e:Qw P fs=some pl):(fs.mapM λf=>(do pure (f.offset,← sizeOf f.type):Sem (Nat×Nat))).run P w=.ok pl w:=by
 induction fs generalizing pl with
 |nil=>simp_all[Qw,kX]
 |cons f fs ih=>simp only[Qw,kX,Option.bind_eq_some_iff,Option.map_eq_some_iff]at e;obtain⟨q,⟨n,hn,rfl⟩,t,ht,he⟩:=e;cases he;rw[List.mapM_cons];rw[qV (show(do pure (f.offset,← sizeOf f.type):Sem (Nat×Nat)).run P w=.ok (f.offset,n) w from by simp_all[Ae.run_sizeOf])];rw[qV (ih ht)];rfl
theorem qVR {fs:Array Field} {pl:List (Nat×Nat)} (e:Qw P fs.toList=some pl):(fs.mapM λf=>(do pure (f.offset,← sizeOf f.type):Sem (Nat×Nat))).run P w=.ok pl.toArray w:=by rw[Array.mapM_eq_mapM_toList];show((fs.toList.mapM λf=>(do pure (f.offset,← sizeOf f.type):Sem (Nat×Nat)))>>=λl=>pure l.toArray).run P w=_;rw[qV (qXa e)];rfl
theorem qz0 {t:TypeId} {parts:Array (Nat×Operand)} (ho:o.op=.build t parts) (hr:dR m D ρ r) (R:Rel P m D h w) (e:aX P c o.op r h fin=some (v,h')):dI P m D h w ((execOp ρ o).run P w) v h':=by
 rw[ho]at e;simp only[aX,qD]at e;obtain⟨z,hz,d,hd,e⟩:=e;obtain⟨z1,z2⟩:=yI (w:=w) (m:=m) (D:=D) hz;simp only[execOp,ho];cases d<;>simp only[reduceCtorEq]at e
 case struct fs=>
  simp only[qD]at e;obtain⟨pl,nR,vs,rO,e⟩:=e;unfold zc at e;simp only[qD,qU]at e;obtain⟨cs,sR,rfl,rfl⟩:=e;have PA:=qVR (w:=w) nR;have CN:yd (pl.toArray[·]?) r parts.toList=some vs:=by
   grind[kN,yv]
  obtain⟨f1,f2⟩:=NP hr CN sR (k6 z2);refine zw R ?_ f2;unfold Instr.build;rw[qV z1];rw[qV (Ae.run_underlying hd)];simp only[];rw[qV PA,w6];have iH:(parts.map λ(p:Nat×Operand)=>(p.1,ρ p.2)).toList=parts.toList.map λp=>(p.1,ρ p.2):=by simp
  rw[iH,f1];rfl
 case array n el=>
  simp only[qD]at e;obtain⟨sz,bz,vs,rO,e⟩:=e;unfold zc at e;simp only[qD,qU]at e;obtain⟨cs,sR,rfl,rfl⟩:=e;obtain⟨f1,f2⟩:=NP hr rO sR (k6 z2);refine zw R ?_ f2;unfold Instr.build;rw[qV z1];rw[qV (Ae.run_underlying hd)];simp only[];rw[qV (Ae.run_sizeOf bz),w6];have iH:(parts.map λ(p:Nat×Operand)=>(p.1,ρ p.2)).toList=parts.toList.map λp=>(p.1,ρ p.2):=by simp
  rw[iH,f1];rfl
theorem YD {t:TypeId} {z:List AV} (e:US P t=some z):∃i za,P.info? t=some i∧ff P t=some za∧z=za.cells∧z.length=i.size∧jW z=true∧i.bytes≤65536∧aK P t=some z.length:=by unfold US at e;simp only[Option.bind_eq_some_iff,jL,Bool.and_eq_true,Option.some.injEq]at e;obtain⟨i,hi,za,hz,⟨h1,h2,h3⟩,rfl⟩:=e;have h1:=zF h1;exact⟨i,za,hi,hz,rfl,h1,h2,zN h3,by grind[aK]⟩
theorem JF {α:Type} (l:List α) (n:Nat):(gu l n).length=n*l.length:=by
 induction n with
 |zero=>simp[gu]
 |succ n ih=>grind[gu,Nat.succ_mul]
theorem ZQ {l:List AV} (hl:aY D l) (n:Nat):aY D (gu l n):=by
 induction n with
 |zero=>trivial
 |succ n ih=>exact w8.2 ⟨hl,ih⟩
theorem qx7 {α:Type} [Inhabited α] (l:List α) (n i:Nat) (hi:i<n*l.length):(gu l n)[i]? =some (l.toArray[i%l.toArray.size]!):=by
 induction n generalizing i with
 |zero=>grind
 |succ n ih=>
  have uY:0<l.length:=by
   grind
  simp only[gu];by_cases ap:i<l.length
  ·grind[List.getElem?_append_left,List.size_toArray,Nat.mod_eq_of_lt]
  ·rw[List.getElem?_append_right omQ,ih (i-l.length) (by grind)]
   congr 2
   simp only[List.size_toArray]
   conv=>rhs;rw[show i=(i-l.length)+l.length from by omega,Nat.add_mod_right]
theorem qJP (z:List AV) (n:Nat) (m:Mp):((Array.range (n*z.length)).map λi=>(aQ m z).toArray[i%(aQ m z).toArray.size]!)=(aQ m (gu z n)).toArray:=by
 apply Array.ext
 ·simp[JF]
 ·intro i h1 h2;have hi:i<n*z.length:=by grind
  have hg:=qx7 (aQ m z) n i (by simp_all);have hr:gu (aQ m z) n=aQ m (gu z n):=by
   clear hg h1 h2 hi
   induction n with
   |zero=>rfl
   |succ n ih=>grind[gu,GJ]
  grind
theorem qxb {α:Type} (f:Nat→α):(Array.range 0).map f= #[]:=by simp
theorem qqb {t:TypeId} {len:Nat} {parts:Array (Nat×Operand)} (ho:o.op=.buildSlice t len parts) (hr:dR m D ρ r) (R:Rel P m D h w) (e:aX P c o.op r h fin=some (v,h')):dI P m D h w ((execOp ρ o).run P w) v h':=by
 rw[ho]at e;simp only[aX,qD]at e;obtain⟨d,hd,e⟩:=e;cases d<;>simp only[reduceCtorEq]at e
 rename_i el;simp only[qD,zM]at e;obtain⟨z,hz,hlen,vs,rO,e⟩:=e;have hlen:=zN hlen;obtain⟨i,za,hi,CO,rfl,lM,nP,PB,bz⟩:=YD hz;unfold xd at e;simp only[qD,jL,qU]at e;obtain⟨cs,sR,hcone,rfl,rfl⟩:=e;obtain⟨z1,z2⟩:=yI (w:=w) (m:=m) (D:=D) CO;obtain⟨f1,f2⟩:=NP hr rO sR (ZQ (k6 z2) len);simp only[execOp,ho];refine Nx R (w0:={ w with heap:=w.heap.push (.cells (aQ m cs).toArray el) }) (room:=0) ?_ rfl rfl rfl rfl (by grind[cM,CT.aZ]) (z5 (CT.aZ _) _ rfl) (.inl rfl);unfold Instr.buildSlice;rw[qV (Ae.run_underlying hd)];simp only[];rw[qV (Ae.run_sizeOf bz)];have bY:¬(len*za.cells.length>2 ^ 24):=by omega
 simp only[bY,if_false];have iH:(parts.map λ(p:Nat×Operand)=>(p.1,ρ p.2)).toList=parts.toList.map λp=>(p.1,ρ p.2):=by simp
 have zs:=qJP za.cells len m;have z0:(aQ m za.cells).toArray.size=za.cells.length:=by simp
 have last:∀cells,Instr.fill (λi=>some (i*za.cells.length,za.cells.length)) cells (parts.map λ(x:Nat×Operand)=>(x.1,ρ x.2)).toList=some (aQ m cs).toArray→
   (match Instr.fill (λi=>some (i*za.cells.length,za.cells.length)) cells (parts.map λ(x:Nat×Operand)=>(x.1,ρ x.2)).toList with
    |some cells=>(do
      let a ← newRow el cells
      pure (Value.slice (some a) len len):Sem Value)
    | _ => stuck "buildSlice: a part of the wrong size").run P w = .ok (cv (fun x => if x = h.nx then (w.heap.size, 0) else m x) (.slice h.nx 0 len len false)) { w with heap := w.heap.push (.cells (aQ m cs).toArray el) } := by
  simp_all[kS,cv]
 split
 ·grind
 ·rw[qV z1,w6];grind
theorem qXr {n:Nat} (h:n≤1073741824):IntKind.i64.wrap (Int.ofNat n)=Int.ofNat n:=by simp[UK];omega
theorem U2 (n:Nat):(askRoom n).run P w=.ok () w:=by
 simp
theorem jQa {t:TypeId} {x y:Operand} (ho:o.op=.makeSlice t x y) (hr:dR m D ρ r) (R:Rel P m D h w) (e:aX P c o.op r h fin=some (v,h')):dI P m D h w ((execOp ρ o).run P w) v h':=by
 rw[ho]at e;simp only[aX,qD]at e;obtain⟨d,hd,e⟩:=e;cases d<;>simp only[reduceCtorEq]at e
 rename_i el;simp only[qD]at e;obtain⟨z,hz,a,ha,b,hb,e⟩:=e;obtain⟨a1,a2⟩:=hr _ _ ha;obtain⟨b1,b2⟩:=hr _ _ hb;obtain⟨i,za,hi,CO,rfl,lM,nP,PB,bz⟩:=YD hz;unfold YG at e
 split at e
 ·rename_i k1 ln k2 cp;simp only[jL,qU,Bool.and_eq_true]at e;obtain⟨⟨h1,h2⟩,rfl,rfl⟩:=e;have h1:=zN h1;have h2:=zN h2;obtain⟨z1,z2⟩:=yI (w:=w) (m:=m) (D:=D) CO;simp only[execOp,ho,a1,b1];refine Nx R (w0:={ w with heap:=w.heap.push (.cells (aQ m (gu za.cells cp)).toArray el) }) (room:=0) ?_ rfl rfl rfl rfl (by grind[cM,CT.o7,ZQ,k6]) (z5 (CT.o7 _ _) _ rfl) (.inl rfl);unfold Instr.makeSlice;rw[qV (Ae.run_underlying hd)];simp only[cv];rw[qV (show(asInt (.int k1 (.ofNat ln))).run P w=.ok (.ofNat ln) w from rfl)];rw[qV (show(asInt (.int k2 (.ofNat cp))).run P w=.ok (.ofNat cp) w from rfl)];rw[qV (Ae.run_typeInfo hi)];simp only[qXr (show ln≤1073741824 by omega),qXr h2];have FV:i.bytes*cp≤65536*1073741824:=Nat.mul_le_mul PB h2;have nS:(decide (Int.ofNat cp<0)||decide ((i.bytes:Int)*Int.ofNat cp>2 ^ 48)||decide (Int.ofNat ln<0)||decide (Int.ofNat ln>Int.ofNat cp))=false:=by
   grind
  simp only[nS,Bool.false_eq_true,if_false];rw[qV (U2 _)];rw[qV (Ae.run_sizeOf bz)];simp only[show(Int.ofNat cp).toNat=cp from rfl,show(Int.ofNat ln).toNat=ln from rfl];have zs:=qJP za.cells cp m
  split
  ·rename_i h0;rw[qV (show(pure #[]:Sem (Array Value)).run P w=.ok #[] w from rfl)];have:gu za.cells cp=[]:=iA (by rw[JF,h0]);simp_all[qxb,kS]
  ·rw[qV z1,w6];rw[qV (show(pure (aQ m za.cells).toArray:Sem (Array Value)).run P w=.ok _ w from rfl)];simp_all[kS]
 grind
end Go.Ae
namespace Go.Ae
open Go
variable {P:Program} {m:Mp} {D:Nat→Prop} {h h':AH} {w:World} {c:CV} {ρ:Operand→Value} {r:Operand→Option AV} {o:Oper} {v:AV}
theorem OU {x:AV} {n:Nat} (e:QF x=some n):(Builtin.lenOf (cv m x)).run P w=.ok n w:=by
 cases x<;>simp only[QF,reduceCtorEq,Option.some.injEq]at e<;>subst e
 ·rfl
 all_goals rfl
theorem Yr (R:Rel P m D h w) {x:AV} {sz n:Nat} {l:List AV} (hx:br D x) (e:kJ h sz n x=some l) :
  (Builtin.firstCells sz n (cv m x)).run P w=.ok (aQ m l).toArray w∧aY D l:=by
 cases x<;>simp only[kJ,reduceCtorEq]at e
 case str s=>
  simp only[Option.map_eq_some_iff]at e;obtain⟨t,ht,rfl⟩:=e;obtain⟨t1,t2⟩:=k8 ht;refine⟨?_,?_⟩
  ·simp only[cv,Builtin.firstCells,wJ]
   congr 1
   subst t1;rw[ByteArray.data_extract];simp[ye,List.extract_eq_take_drop];rfl
  ·rw[vo];intro v hv;rw[List.mem_map]at hv;obtain⟨b,_,rfl⟩:=hv;trivial
 case slice b off len cp aO=>obtain⟨h1,h2,_⟩:=R.read hx e;trivial
 case aj=>simp only[Option.some.injEq]at e;subst e;trivial
 case bM a=>simp only[jL,Option.some.injEq]at e;obtain⟨e1,rfl⟩:=e;have e1:=zF e1;subst e1;refine⟨?_,trivial⟩;simp only[cv,Builtin.firstCells,Nat.zero_mul];rfl
 case tail b o o' i1=>simp only[jL,Option.some.injEq]at e;obtain⟨e1,rfl⟩:=e;have e1:=zF e1;subst e1;refine⟨?_,trivial⟩;simp only[cv,Builtin.firstCells,Nat.zero_mul];rfl
def qxd (h:AH) (sz n:Nat) (x:AV) (l:List AV):Prop :=
 kJ h sz n x=some l∨∃b off len cap aO c t o,x=.slice b off len cap aO∧h.get b=some (.cells c t o)∧vh (n*sz) (gj off c.toList)=some l
theorem qva {h:AH} {sz n:Nat} {x:AV} {nc:CT} (e:NB h sz n x=some nc):qxd h sz n x nc.toList:=by
 cases x<;>simp only[NB,reduceCtorEq]at e
 case slice b off len cap aO=>
  split at e
  ·rename_i c t o hg;exact .inr ⟨b,off,len,cap,aO,c,t,o,rfl,hg,CT.CH e⟩
  ·rename_i t hg;simp only[Option.bind_eq_some_iff]at e;obtain⟨l,hl,e⟩:=e;cases e;refine .inl ?_;grind[kJ,yo,CT.aZ]
  grind
 case aj=>cases e;exact .inl rfl
 case bM a=>rw[jL]at e;obtain⟨e1,e⟩:=e;cases e;refine .inl ?_;simp only[kJ,e1,cond_true];rfl
 case tail b o o' i1=>rw[jL]at e;obtain⟨e1,e⟩:=e;cases e;refine .inl ?_;simp only[kJ,e1,cond_true];rfl
 case str s=>simp only[Option.bind_eq_some_iff]at e;obtain⟨l,hl,e⟩:=e;cases e;refine .inl ?_;grind[kJ,CT.aZ]
theorem qYN (pj:Nat):∀(rounds c:Nat),c≤2*pj+1000→Builtin.growBy pj rounds c≤2*pj+1000:=by
 intro rounds
 induction rounds with
 |zero=>intro c h;exact h
 |succ n ih=>
  grind[Builtin.growBy]
theorem qgo {aB cap:Nat} (h:cap<aB):Builtin.nextslicecap aB cap≤2*aB+1000:=by
 unfold Builtin.nextslicecap
 split
 ·omega
 ·split
  ·omega
  ·exact qYN aB 4 cap omQ
theorem qK3 {t u:TypeId} {ts:List TypeId} {ty:TypeId} {e:TypeId} {du:TypeDesc} {i:TypeInfo} {za:AV} {s x:Value} {base:Option Addr} {dF ie n:Nat} {new:Array Value}
  (ht:P.underlying t=some (.slice e)) (hu:P.underlying u=some du) (SB:∀k,du≠.int k) (hi:P.info? e=some i) (CO:ff P e=some za) (hz:za.cells.length=i.size) (hb:i.bytes≤65536)
  (hs:s=.slice base dF ie) (hlen:(Builtin.lenOf x).run P w=.ok n w) (sS:∀W:World,W.heap=w.heap→(Builtin.firstCells i.size n x).run P W=.ok new W) :
  (dF+n≤ie→(Builtin.append_ (t::u::ts).toArray ty [s,x].toArray).run P w=
   (do (match(generalizing:=false) base with |some a=>storeCells (a.add (dF*i.size)) new.toList |none=>pure ());pure (.slice base (dF+n) ie):Sem Value).run P w)∧
  (¬dF+n≤ie→dF+n≤67108864→∀bU:Array Value,(∀W:World,W.heap=w.heap→(Builtin.firstCells i.size dF s).run P W=.ok bU W)→
   ∃(cap:Nat) (rest:Array Value),dF+n≤cap∧rest.size=(cap-(dF+n))*i.size∧
    (Builtin.append_ (t::u::ts).toArray ty [s,x].toArray).run P w=.ok (.slice (some ⟨w.heap.size,0,none⟩) (dF+n) cap) { w with drawn:=w.drawn+1,heap:=w.heap.push (.cells (bU++new++rest) e) }):=by
 subst hs;have bz:aK P e=some i.size:=by grind[aK]
 unfold Builtin.append_;simp only[List.getElem?_toArray,List.getElem?_cons_zero,List.getElem?_cons_succ];rw[qV (Ae.run_underlying ht)];simp only[];rw[qV (Ae.run_sizeOf bz)];rw[qV (Ae.run_underlying hu)];cases du<;>first |(exact absurd rfl (SB _)) |skip
 all_goals
  rw[qV (show(pure _:Sem Bool).run P w=.ok false w from rfl)];simp only[Bool.false_eq_true,if_false,Bool.not_false,if_true];rw[qV hlen];constructor
  ·intro hle;simp only[iJ hle];rw[qV (sS w rfl)];cases base<;>rfl
  ·intro SC SD bU hold;simp only[iQ SC];rw[qV (Ae.run_typeInfo hi)];have h1:¬(((dF+n:Nat):Int)>IntKind.i64.max∧(False∨i.bytes=0)):=by
    rintro⟨hh,_⟩;have:((dF+n:Nat):Int)>9223372036854775807:=hh;omega
   simp only[iQ h1];rw[qV (Ae.run_typeInfo hi)];have h2:¬(Builtin.nextslicecap (dF+n) ie*i.bytes>2 ^ 48):=by have a1:=qgo (show ie<dF+n by omega);have a2:Builtin.nextslicecap (dF+n) ie*i.bytes≤134219728*65536:=Nat.mul_le_mul omQ hb;omega
   simp only[iQ h2];refine⟨(Question.appendCap (dF+n) ie e).cut (w.tape w.drawn (.appendCap (dF+n) ie e)),(Builtin.zeroCells (aQ (λ_=>(0,0)) za.cells).toArray ((Question.appendCap (dF+n) ie e).cut (w.tape w.drawn (.appendCap (dF+n) ie e))-(dF+n))),?_,?_,?_⟩
   ·simp only[Question.cut];omega
   ·simp[Builtin.zeroCells,hz]
   ·rw[qV (show(choose (.appendCap (dF+n) ie e)).run P w=.ok _ { w with drawn:=w.drawn+1 }from rfl)];rw[qV (Ae.run_typeInfo hi)];rw[qV (U2 _)];rw[qV (hold { w with drawn:=w.drawn+1 } rfl)];rw[qV (sS { w with drawn:=w.drawn+1 } rfl)];rw[qV (yI (m:=λ_=>(0,0)) (D:=λ_=>True) CO).1];rw[qV (kS e _),w6];rfl
theorem Rel.kill (r:Rel P m D h w) (b:Nat) (hb:D b):Ext m D h w m D (h.put b .dead) w∧Rel P m D (h.put b .dead) w:=by
 refine Ext.rel r ?_;have cR:∀b',b'≠b→(h.put b .dead).get b'=h.get b':=λb' hn=>AH.cn h .dead (λe=>hn e.symm);have bX:∀b',live (h.put b .dead) b'→live h b':=λb' hl=>by
  by_cases e:b'=b
  ·subst e;obtain⟨x,hx,uD⟩:=hl;rw[AH.bu]at hx;cases hx;trivial
  grind[live]
 refine⟨⟨λ_ h=>h,λ_ _=>rfl,Nat.le_refl _,?_,Nat.le_refl _,?_,rfl,rfl,rfl,λb=>⟨.inl,λhb=>hb.elim id λhb=>by simp at*;omega⟩,?_⟩,⟨?_,?_,?_,?_⟩⟩
 ·intro c hc hn;refine⟨rfl,?_⟩;rintro⟨b',bL,fO,he⟩;exact hn ⟨b',bL,bX b' fO,he⟩
 ·grind
 ·grind[AH.bu]
 ·intro b' bL;by_cases e:b'=b
  ·subst e;exact⟨.dead,AH.bu h b' _,trivial,trivial⟩
  ·obtain⟨y,hy,dG,iF⟩:=r.bR b' bL;grind
 ·intro b1 b2 h1 h2 l1 l2 he;exact r.inj b1 b2 h1 h2 (bX b1 l1) (bX b2 l2) he
 ·intro b' bL;exact r.lt b' bL
 ·rintro b' t bL hg ⟨b2,oN,iC,he⟩;by_cases e:b'=b
  ·simp_all
  ·rw[cR b' e]at hg;exact r.dh b' t bL hg ⟨b2,oN,bX b2 iC,he⟩
theorem Rel.FX {w0:World} (r:Rel P m D h w) (b:Nat) (x:cW) (hb:D b) (rM:live h b)
  (FJ:w0.heap.size=w.heap.size) (fP:∀c,c≠(m b).1→w0.heap[c]? =w.heap[c]?) (CJ:w0.os=w.os) (lW:w0.tape=w.tape) (mY:w0.output=w.output)
  (hx:cM D x) (nO:di P m x (m b) w0) (lJ:∀t,x≠.dh t:=by intro t hh;cases hh) :
  let m':Mp:=λb'=>if b'=h.nx then m b else m b'
  let D':Nat→Prop:=λb'=>b'=h.nx∨D b'
  Ext m D h w m' D' ((h.put b .dead).new x) w0∧Rel P m' D' ((h.put b .dead).new x) w0:=by
 intro m' D';refine Ext.rel r ?_;have SE:b≠h.nx:=by have:=r.lt b hb;omega
 have hm:∀b',D b'→m' b'=m b':=λb' bL=>by
  have:=r.lt b' bL;grind
 have mF:m' h.nx=m b:=by grind
 have cR:∀b',D b'→b'≠b→((h.put b .dead).new x).get b'=h.get b':=λb' bL hn=>by
  rw[AH.cq _ x (show(h.put b .dead).nx≠b' by have:=r.lt b' bL;simp;omega),AH.cn h .dead (λe=>hn e.symm)]
 have pU:((h.put b .dead).new x).get b=some .dead:=by rw[AH.cq _ x (show(h.put b .dead).nx≠b by simp;omega),AH.bu]
 have FY:¬live ((h.put b .dead).new x) b:=by rintro⟨y,hy,eF⟩;rw[pU]at hy;cases hy;exact eF
 have bX:∀b',D b'→live ((h.put b .dead).new x) b'→live h b'∧b'≠b:=λb' bL hl=>by
  grind[live]
 refine⟨⟨λb' h=>.inr h,hm,by omega,?_,Nat.le_succ _,?_,CJ,lW,mY,λb'=>(show b'=h.nx∨D b'↔D b'∨(h.nx≤b'∧b'<h.nx+1)from⟨λhh=>hh.elim (λe=>.inr omQ) .inl,λhh=>hh.elim .inr λe=>.inl omQ⟩),?_⟩,⟨?_,?_,?_,?_⟩⟩
 ·intro c hc hn;have hcb:c≠(m b).1:=λe=>hn ⟨b,hb,rM,e.symm⟩;refine⟨fP c hcb,?_⟩;rintro⟨b',bL,fO,he⟩;rcases bL with rfl |bL
  ·grind
  ·rw[hm b' bL]at he;exact hn ⟨b',bL,(bX b' bL fO).1,he⟩
 ·intro b' bL hn;have bW:b'≠b:=λe=>hn (e▸hb);refine⟨?_,?_⟩
  ·rw[AH.cq _ x (show(h.put b .dead).nx≠b' by simp;omega),AH.cn h .dead (λe=>bW e.symm)]
  grind
 ·intro b' t bL hg;rcases bL with rfl |bL
  ·have sk:((h.put b .dead).new x).get h.nx=some x:=AH.bD (h.put b .dead) x;grind
  grind
 ·intro b' bL;rcases bL with rfl |bL
  ·refine⟨x,AH.bD (h.put b .dead) x,?_,hx.mono λb hb=>.inr hb⟩;rw[mF];exact nO.congr hm hx rfl
  ·by_cases e:b'=b
   ·subst e;exact⟨.dead,pU,trivial,trivial⟩
   ·obtain⟨y,hy,dG,iF⟩:=r.bR b' bL;refine⟨y,(cR b' bL e).trans hy,?_,iF.mono λb hb=>.inr hb⟩;rw[hm b' bL];cases y with
    |dead=>trivial
    |dh t=>exact dG.congr hm iF (fP _ λee=>r.dh b' t bL hy ⟨b,hb,rM,ee.symm⟩)
    |_=>exact dG.congr hm iF (fP _ λee=>e (r.inj b' b bL hb ⟨_,hy,by trivial⟩ rM ee))
 ·intro b1 b2 h1 h2 l1 l2 he;rcases h1 with rfl |h1<;>rcases h2 with rfl |h2
  ·rfl
  ·exfalso;obtain⟨q1,q2⟩:=bX b2 h2 l2;rw[mF,hm b2 h2]at he;exact q2 (r.inj b b2 hb h2 rM q1 he).symm
  ·exfalso;obtain⟨q1,q2⟩:=bX b1 h1 l1;rw[mF,hm b1 h1]at he;exact q2 (r.inj b1 b h1 hb q1 rM he)
  ·rw[hm b1 h1,hm b2 h2]at he;exact r.inj b1 b2 h1 h2 (bX b1 h1 l1).1 (bX b2 h2 l2).1 he
 ·intro b' bL;rcases bL with rfl |bL
  ·simp
  ·have:=r.lt b' bL;simp;omega
 ·rintro b1 t h1 hg ⟨b2,h2,l2,he⟩;rcases h1 with rfl |h1
  ·have sk:((h.put b .dead).new x).get h.nx=some x:=AH.bD (h.put b .dead) x;grind
  ·by_cases e:b1=b
   ·grind
   ·rw[cR b1 h1 e]at hg;rw[hm b1 h1]at he;rcases h2 with rfl |h2
    ·rw[mF]at he;exact r.dh b1 t h1 hg ⟨b,hb,rM,he⟩
    ·rw[hm b2 h2]at he;exact r.dh b1 t h1 hg ⟨b2,h2,(bX b2 h2 l2).1,he⟩
theorem Rel.heap {W:World} (R:Rel P m D h w) (hW:W.heap=w.heap):Rel P m D h W :=
 ⟨⟨λb hb=>by
  obtain⟨x,hx,hr,hd⟩:=R.bR b hb
  exact⟨x,hx,hr.congr (λ_ _=>rfl) hd (by rw[hW]),hd⟩,R.inj,R.lt,R.dh⟩,λp hp=>by
  obtain⟨g,h1,h2,h3⟩:=R.gl p hp
  exact⟨g,h1,(G1 h1 h2).2 (by rw[hW]),h3⟩⟩
theorem SF {ct:CT} {cs:List AV} (mD:ct.toList=cs) {t:TypeId} {w0:World} {cap n:Nat} {rest:Array Value} (bz:aK P t=some n) (hc:cs.length≤cap*n) (hr:rest.size=cap*n-cs.length)
  (ly:w0.heap=w.heap.push (.cells ((aQ m cs).toArray++rest) t)):di P m (.cells ct t true) (w.heap.size,cap) w0:=by
 subst mD;refine⟨rest.toList,(0,0),?_,(λhh=>by grind),(λi _=>by simp),λ_ k hk=>?_⟩
 all_goals simp_all
theorem MD (R:Rel P m D h w) {x:AV} {sz n:Nat} {l:List AV} (hx:br D x) (e:qxd h sz n x l):(Builtin.firstCells sz n (cv m x)).run P w=.ok (aQ m l).toArray w∧aY D l:=by
 rcases e with e |⟨b,off,len,cap,aO,c,t,o,rfl,hg,e⟩
 ·grind[Yr]
 ·obtain⟨h1,h2,_⟩:=R.sM hx hg e;trivial
theorem qqs {cl:Call} (ho:o.op=.call cl) (hc:cl.callee=.builtin .append) (hr:dR m D ρ r) (R:Rel P m D h w) (e:aX P c o.op r h fin=some (v,h')):dI P m D h w ((execOp ρ o).run P w) v h':=by
 obtain⟨cs,hx⟩:=kQ (P:=P) (w:=w) (ρ:=ρ) ho hc;rw[ho]at e;simp only[aX,hc]at e
 split at e
 ·rename_i s x t u ts ha cx;simp only[qD]at e;obtain⟨du,SB,e⟩:=e;have lJ:(∀k,du≠.int k)∧∃el z vs vx,P.underlying t=some (.slice el)∧US P el=some z∧r s=some vs∧r x=some vx∧xH h el z.length vs vx fin=some (v,h'):=by
   split at e
   ·grind
   ·rename_i hn;simp only[qD]at e;grind
  obtain⟨lJ,el,z,vs,vx,ht,hz,rO,uZ,e⟩:=lJ;obtain⟨s1,s2⟩:=hr _ _ rO;obtain⟨x1,x2⟩:=hr _ _ uZ;obtain⟨i,za,hi,CO,rfl,lM,nP,PB,bz⟩:=YD hz;rw[lM]at bz e;unfold xH at e;simp only[qD,jL]at e;obtain⟨n,hn,nc,hnc,sT,e⟩:=e;have sT:=zF sT;rw[CT.dD]at sT;have mF:=qva hnc;obtain⟨new,bY⟩:∃new,nc.toList=new:=⟨_,rfl⟩;rw[bY]at sT mF;have hnd:aY D new:=(MD R x2 mF).2;rw[hx,vN ha,vN cx];simp only[List.map_toArray,List.map_cons,List.map_nil,s1,x1];have lH:=λ(base:Option Addr) (dF ie:Nat) (hb:cv m vs=.slice base dF ie)=>qK3 (w:=w) (ty:=o.type) (ts:=ts) ht SB lJ hi CO lM PB hb (OU hn) (λW hW=>(MD (R.heap hW) x2 mF).1)
  have done:∀{z:Value} {w0:World},(Builtin.append_ (t::u::ts).toArray o.type [cv m vs,cv m vx].toArray).run P w=.ok z w0→
    (builtin .append (t::u::ts).toArray o.type cs [cv m vs,cv m vx].toArray).run P w=.ok (.value z) w0:=by
   intro z w0 hh;show(do pure (Next.value (← Builtin.append_ (t::u::ts).toArray o.type [cv m vs,cv m vx].toArray)):Sem Next).run P w=_;simp_all
  have store:∀(b off len l9:Nat) (aO:Bool) (rm:Nat) (h1:AH),vs=.slice b off len rm aO→cv m vs=.slice (some ⟨(m b).1,off,none⟩) len l9→len+n≤l9→wK h b (off+len*i.size) new=some h1→
    dI P m D h w ((builtin .append (t::u::ts).toArray o.type cs [cv m vs,cv m vx].toArray).run P w) (.slice b off (len+n) rm aO) h1:=by
   intro b off len l9 aO rm h1 CN iL hle hw;obtain⟨a1,_⟩:=lH _ _ _ iL;subst CN;obtain⟨w',cS,sP,fQ⟩:=R.write s2 hnd hw;refine⟨m,D,w',.inl (done ?_),sP,fQ,s2⟩;rw[a1 hle];simp only[];rw[kc,qV cS];simp only[cv,Value.slice.injEq]at iL ⊢;simp_all
  have Bu:∀(b off len l9:Nat),cv m vs=.slice (some ⟨(m b).1,off,none⟩) len l9→n=0→len≤l9→
    dI P m D h w ((builtin .append (t::u::ts).toArray o.type cs [cv m vs,cv m vx].toArray).run P w) vs h:=by
   intro b off len l9 iL lA hle;obtain⟨a1,_⟩:=lH _ _ _ iL;subst lA;have:new=[]:=iA omQ;subst this;refine⟨m,D,w,.inl (done ?_),Ext.refl ..,R,s2⟩;rw[a1 omQ,iL];rfl
  have grow:∀(b off len l9:Nat) (bU:List AV),cv m vs=.slice (some ⟨(m b).1,off,none⟩) len l9→D b→¬len+n≤l9→len+n≤67108864→(yo h b off (len*i.size)=some bU∨∃c t o,h.get b=some (.cells c t o)∧vh (len*i.size) (gj off c.toList)=some bU)→
    ∃cap rest w0,(Builtin.append_ (t::u::ts).toArray o.type [cv m vs,cv m vx].toArray).run P w=.ok (.slice (some ⟨w.heap.size,0,none⟩) (len+n) cap) w0∧
     w0.heap=w.heap.push (.cells ((aQ m (bU++new)).toArray++rest) el)∧w0.os=w.os∧w0.tape=w.tape∧w0.output=w.output∧(bU++new).length≤cap*i.size∧rest.size=cap*i.size-(bU++new).length∧aY D (bU++new):=by
   intro b off len l9 bU iL hb hle sU hold;obtain⟨_,a2⟩:=lH _ _ _ iL;have rd:∀{W:World},Rel P m D h W→(loadCells ⟨(m b).1,off,none⟩ (len*i.size)).run P W=.ok (aQ m bU).toArray W∧aY D bU∧bU.length=len*i.size:=by
    intro W RW;rcases hold with hold |⟨c,t,o,hg,hold⟩
    ·exact RW.read hb hold
    ·exact RW.sM hb hg hold
   obtain⟨o1,o2,o3⟩:=rd R;obtain⟨cap,rest,c1,c2,c3⟩:=a2 hle sU (aQ m bU).toArray (λW hW=>by rw[iL];exact(rd (R.heap hW)).1);have hl:(bU++new).length=(len+n)*i.size:=by grind
   refine⟨cap,rest,_,c3,?_,rfl,rfl,rfl,?_,?_,w8.2 ⟨o2,hnd⟩⟩
   ·simp[GJ]
   ·simp_all[Nat.mul_le_mul_right]
   grind[Nat.sub_mul]
  unfold vt at e;simp only[bY]at e
  split at e
  ·--nil
   obtain⟨a1,a2⟩:=lH none 0 0 rfl;cases lA:Nat.beq n 0
   ·have pn:=gZ lA;rw[lA]at e;simp only[cond_false,jL,qU]at e;obtain⟨sU,rfl,rfl⟩:=e;have sU:=zN sU;obtain⟨cap,rest,c1,c2,c3⟩:=a2 omQ omQ #[] (λW hW=>by rfl);have F7:rest.size=cap*i.size-new.length:=by rw[c2,sT,Nat.zero_add,Nat.sub_mul]
    have F8:new.length≤cap*i.size:=by rw[sT];exact Nat.mul_le_mul_right _ omQ
    obtain⟨ex,re⟩:=R.new (.cells nc el true) _ cap (w0:={ w with drawn:=w.drawn+1,heap:=w.heap.push (.cells (#[]++(aQ m new).toArray++rest) el) }) rfl rfl rfl rfl (by grind[cM])
     (SF bY bz F8 F7 aM)
    refine⟨_,_,_,.inl (done ?_),ex,re,.inl rfl⟩;grind[cv]
   ·have pn:=zF lA;subst pn;rw[lA]at e;simp only[cond_true,qU]at e;obtain⟨rfl,rfl⟩:=e;refine⟨m,D,w,.inl (done ?_),Ext.refl ..,R,trivial⟩;rw[a1 omQ];rfl
  ·rename_i b off len cap;cases hle:Nat.ble (len+n) cap
   ·have u0:=KG hle;rw[hle]at e;simp only[cond_false,jL,qD]at e;obtain⟨sU,bU,hold,e⟩:=e;have sU:=zN sU;simp only[qU]at e;obtain⟨rfl,rfl⟩:=e;obtain⟨c',rest,w0,g1,g2,g3,g4,g5,g6,g7,g8⟩:=grow b off len cap bU rfl s2 omQ sU (.inl hold);have lN:(bif Nat.beq len 0 then nc else CT.ofList (bU++new)).toList=bU++new:=by
     cases fY:Nat.beq len 0
     ·simp[CT.aZ]
     ·have h0:=zF fY;have ho:bU=[]:=iA (by have:=(R.read s2 hold).2.2;grind);grind
    obtain⟨ex,re⟩:=R.new (.cells (bif Nat.beq len 0 then nc else CT.ofList (bU++new)) el true) _ c' g2 g3 g4 g5 (by grind[cM]) (SF lN bz g6 g7 g2);refine⟨_,_,_,.inl (done ?_),ex,re,.inl rfl⟩;grind[cv]
   ·have u0:=zN hle;rw[hle]at e;simp only[cond_true]at e;cases lA:Nat.beq n 0
    ·rw[lA]at e;simp only[cond_false,qD,qU]at e;obtain⟨h1,hw,rfl,rfl⟩:=e;exact store b off len cap false cap h1 rfl rfl u0 hw
    ·have pn:=zF lA;rw[lA]at e;simp only[cond_true,qU]at e;obtain⟨rfl,rfl⟩:=e;exact Bu b off len cap rfl pn omQ
  ·rename_i b off len i0
   split at e
   ·rename_i cells e' hg;simp only[jL,Bool.and_eq_true]at e;obtain⟨⟨f1,f2,f3,f4⟩,e⟩:=e;have f1:=zN f1;have f2:=zF f2;have f3:=zF f3;have f4:=zN f4;rw[CT.dD]at f4;subst f3;obtain⟨rest,fr,k1,k2,k3,k4,k5⟩:=R.cells s2 hg;obtain⟨k4a,k4b⟩:=k4 rfl _ bz;have FR:i0+len≤(m b).2:=by
     have:(i0+len)*i.size≤(m b).2*i.size:=by grind
     exact Nat.le_of_mul_le_mul_right this f1
    cases lA:Nat.beq n 0
    ·have pn:=gZ lA;rw[lA]at e;simp only[cond_false]at e;cases dY:Nat.ble (off+(len+n)*i.size) cells.len
     ·have CP:=KG dY;rw[CT.dD]at CP;rw[dY]at e;simp only[cond_false,jL,qD,Bool.and_eq_true,qU]at e;obtain⟨⟨g0,gs,pV⟩,sV,F9,rfl,rfl⟩:=e;have hold:=CT.pd F9;obtain⟨bU,hco⟩:∃bU,sV.toList=bU:=⟨_,rfl⟩;rw[hco]at hold;have lB:(sV.lH new).toList=bU++new:=by rw[CT.sK,hco]
      have g0:=zF g0;have gs:=zN gs;subst g0;simp only[Nat.zero_mul]at f2;subst f2;by_cases hle:len+n≤(m b).2
      ·--it grows where it lies
       have hlr:(len+n)*i.size≤(m b).2*i.size:=Nat.mul_le_mul_right _ hle;have PC:(len+n)*i.size=len*i.size+n*i.size:=Nat.add_mul ..;obtain⟨w',q1,q2⟩:=YE (P:=P) (0+len*i.size) (aQ m new) 0 w _ k1 (by simp;omega) (qJb m pV) (by simpa using k3);obtain⟨a1,_⟩:=lH _ _ _ rfl;have pW:bU=cells.toList.take (len*i.size)∧len*i.size≤cells.toList.length:=k8 hold;obtain⟨o1,o2⟩:=pW;have ei:bU.length=len*i.size:=by grind
       have lz:cM D (.cells (sV.lH new) el true):=by simp only[cM,lB];grind[w8,XV]
       obtain⟨ex,re⟩:=R.FX b (.cells (sV.lH new) el true) s2 (Vq hg trivial) q2.size q2.other q2.os q2.tape q2.output lz (by
        simp only[di,lB];refine⟨(aQ m cells.toList++rest).drop ((len+n)*i.size),fr,?_,(λhh=>by grind),?_,λ_ k hk=>?_⟩
        ·rw[q2.at_]
         congr 2
         have e1:(aQ m cells.toList++rest).take (0+len*i.size+0)=aQ m bU:=by grind[ye,List.map_take]
         grind[aQ,fz,GJ]
        ·intro j hj;apply k3 j;simp at*;omega
        ·rw[bz]at hk;cases hk;simp;omega)
       refine⟨_,_,w',.inl (done ?_),ex,re,.inl rfl⟩;rw[a1 (by grind)];simp only[];rw[kc,qV q1];simp[cv]
      ·obtain⟨c',rest',w0,g1,g2,g3,g4,g5,g6,g7,g8⟩:=grow b 0 len ((m b).2-0) bU rfl s2 omQ gs (.inr ⟨_,_,_,hg,hold⟩);obtain⟨ex1,re1⟩:=R.kill b s2;obtain⟨ex,re⟩:=re1.new (.cells (sV.lH new) _ true) _ c' g2 g3 g4 g5 (by grind[cM]) (SF lB bz g6 g7 g2);refine⟨_,_,_,.inl (done ?_),ex1.trans ex,re,.inl rfl⟩;rw[g1];simp[cv]
     ·have CP:=zN dY;rw[CT.dD]at CP;rw[dY]at e;simp only[cond_true,qD,qU]at e;obtain⟨h1,hw,rfl,rfl⟩:=e;refine store b off len ((m b).2-i0) true i0 h1 rfl rfl ?_ hw;have:(i0+(len+n))*i.size≤(m b).2*i.size:=by grind
      have:=Nat.le_of_mul_le_mul_right this f1;omega
    ·have pn:=zF lA;rw[lA]at e;simp only[cond_true,qU]at e;obtain⟨rfl,rfl⟩:=e;exact Bu b off len ((m b).2-i0) rfl pn omQ
   grind
  grind
 grind
end Go.Ae
namespace Go.Ae
open Go
variable {P:Program} {m:Mp} {D:Nat→Prop} {h h':AH} {w:World} {c:CV} {ρ:Operand→Value} {r:Operand→Option AV} {o:Oper} {v:AV}
theorem qgm {cl:Call} (ho:o.op=.call cl) (hc:cl.callee=.builtin .copy) (hr:dR m D ρ r) (R:Rel P m D h w) (e:aX P c o.op r h fin=some (v,h')):dI P m D h w ((execOp ρ o).run P w) v h':=by
 obtain⟨cs,hx⟩:=kQ (P:=P) (w:=w) (ρ:=ρ) ho hc;rw[ho]at e;simp only[aX,hc]at e
 split at e
 ·rename_i s x t ts ha cx;simp only[qD]at e;obtain⟨d,hd,e⟩:=e;cases d<;>simp only[reduceCtorEq]at e
  rename_i el;simp only[qD]at e;obtain⟨sz,bz,vs,rO,vx,uZ,e⟩:=e;obtain⟨s1,s2⟩:=hr _ _ rO;obtain⟨x1,x2⟩:=hr _ _ uZ;unfold K7 at e;simp only[qD]at e;obtain⟨n,hn,k,hk,l,hl,e⟩:=e;obtain⟨l1,l2⟩:=Yr R x2 hl;rw[hx,vN ha,vN cx];simp only[List.map_toArray,List.map_cons,List.map_nil,s1,x1];have done:∀{z:Value} {w0:World},(Builtin.copy_ (t::ts).toArray o.type [cv m vs,cv m vx].toArray).run P w=.ok z w0→
    (builtin .copy (t::ts).toArray o.type cs [cv m vs,cv m vx].toArray).run P w=.ok (.value z) w0:=by
   intro z w0 hh;show(do pure (Next.value (← Builtin.copy_ (t::ts).toArray o.type [cv m vs,cv m vx].toArray)):Sem Next).run P w=_;simp_all
  have body:∀base Ha,cv m vs=.slice base k Ha→(Builtin.copy_ (t::ts).toArray o.type [cv m vs,cv m vx].toArray).run P w=
    (do (match(generalizing:=false) base with |some a=>storeCells a (aQ m l) |none=>pure ());pure (goInt (Nat.min n k)):Sem Value).run P w:=by
   intro base Ha hb;unfold Builtin.copy_;simp only[List.getElem?_toArray,List.getElem?_cons_zero,List.getElem?_cons_succ];rw[qV (Ae.run_underlying hd)];simp only[hb];rw[qV (OU hn)];rw[qV (Ae.run_sizeOf bz)];grind[qV]
  split at e
  ·rename_i b off len cp aO;simp only[QF,Option.some.injEq]at hk;subst hk;cases h0:Nat.beq (Nat.min n len) 0
   ·rw[h0]at e;simp only[cond_false,qD,qU]at e;obtain⟨h1,hw,rfl,rfl⟩:=e;obtain⟨w',cS,sP,fQ⟩:=R.write s2 l2 hw;refine⟨m,D,w',.inl (done ?_),sP,fQ,trivial⟩;rw[body _ _ rfl];simp only[];rw[qV cS];rfl
   ·have h0':=zF h0;rw[h0]at e;simp only[cond_true,qU]at e;obtain⟨rfl,rfl⟩:=e;refine⟨m,D,w,.inl (done ?_),Ext.refl ..,R,trivial⟩;rw[body _ _ rfl];have fY:l=[]:=by
     rw[h0']at hl;cases vx<;>simp only[kJ,reduceCtorEq]at hl
     ·grind[Sq]
     ·have:=(R.read x2 hl).2.2;grind
     all_goals grind
    subst fY;simp only[aQ,h0'];rfl
  ·simp only[qU]at e;obtain⟨rfl,rfl⟩:=e;simp only[QF,Option.some.injEq]at hk;subst hk;refine⟨m,D,w,.inl (done ?_),Ext.refl ..,R,trivial⟩;rw[body none 0 rfl];simp only[];show Result.ok (goInt ((Nat.min n 0:Nat):Int)) w=_;rw[show Nat.min n 0=0 from Nat.min_zero n];rfl
  grind
 grind
theorem qX9 {l:List AV} {s:List UInt8} (e:Xo l=some s):∃ns:List Int,aQ m l=ns.map (Value.int .u8)∧∀acc:ByteArray,ns.foldl (λr n=>r.push (UInt8.ofNat n.toNat)) acc=⟨acc.data++s.toArray⟩:=by
 induction l generalizing s with
 |nil=>simp[Xo]at e;subst e;exact⟨[],rfl,λacc=>by simp⟩
 |cons a l ih=>
  unfold Xo at e
  split at e
  ·grind
  ·rename_i n r Hb;cases Hb;simp only[Option.bind_eq_some_iff]at e;obtain⟨t,ht,e⟩:=e;cases e;obtain⟨ns,h1,h2⟩:=ih ht;refine⟨.ofNat n::ns,by grind[aQ,cv],λacc=>?_⟩;simp_all
  grind
theorem jZd {ct:CT} {cs:List AV} (mD:ct.toList=cs) {t:TypeId} {w0:World} {cap n:Nat} {rest:Array Value} (bz:aK P t=some n) (hc:cs.length≤cap*n) (hr:rest.size=cap*n-cs.length)
  (ly:w0.heap=w.heap.push (.cells ((aQ m cs).toArray++rest) t (cs.length+rest.size,cs.length+rest.size+1))):di P m (.cells ct t true) (w.heap.size,cap) w0:=by
 subst mD;have FZ:rest.toList.length=rest.size:=Array.length_toList;refine⟨rest.toList,(ct.toList.length+rest.size,ct.toList.length+rest.size+1),?_,(λhh=>by grind),(λi hi=>by grind),λ_ k hk=>?_⟩
 all_goals simp_all
theorem jQF {s d:TypeId} {x:Operand} (ho:o.op=.convert s d x) (hr:dR m D ρ r) (R:Rel P m D h w) (e:aX P c o.op r h fin=some (v,h')):dI P m D h w ((execOp ρ o).run P w) v h':=by
 rw[ho]at e;simp only[aX,qD]at e;obtain⟨a,ha,ds,Ew,dd,Hc,e⟩:=e;obtain⟨a1,a2⟩:=hr _ _ ha;simp only[execOp,ho,a1];cases dd<;>simp only[reduceCtorEq]at e
 case int k=>
  cases ds<;>simp only[reduceCtorEq]at e
  unfold QI at e
  split at e
  ·simp only[qU]at e;obtain⟨rfl,rfl⟩:=e;refine zw R ?_ trivial;unfold convert;rw[qV (Ae.run_underlying Ew),qV (Ae.run_underlying Hc)];simp only[cv,Jv];rfl
  grind
 case string=>
  cases ds<;>simp only[reduceCtorEq]at e
  case string=>
   unfold G3 at e
   split at e
   ·simp only[qU]at e;obtain⟨rfl,rfl⟩:=e;refine zw R ?_ trivial;simp_all[convert,Ae.run_underlying,cv]
   grind
  case slice el=>
   simp only[qD]at e;obtain⟨de,PD,e⟩:=e;have SH:de=.int .u8∧Nf h a (λz=>fin z h)=some (v,h'):=by
    grind
   obtain⟨rfl,e2⟩:=SH;unfold Nf at e2
   split at e2
   ·simp only[qU]at e2;obtain⟨rfl,rfl⟩:=e2;refine zw R ?_ trivial;unfold convert;rw[qV (Ae.run_underlying Ew),qV (Ae.run_underlying Hc)];simp only[cv];rw[qV (Ae.run_underlying PD)];rfl
   ·rename_i b off len cp aO;simp only[qD,qU]at e2;obtain⟨cs,sR,q,hq,rfl,rfl⟩:=e2;obtain⟨r1,r2,r3⟩:=R.read a2 sR;obtain⟨ns,n1,n2⟩:=qX9 (m:=m) hq;refine zw R ?_ trivial;obtain⟨cc,fZ⟩:∃cc,cv m (.slice b off len cp aO)=.slice (some ⟨(m b).1,off,none⟩) len cc:=⟨_,rfl⟩;rw[fZ];rw[run_convert_bytes_string w s d el _ _ _ Ew PD Hc];rw[run_bytesToString w _ len _ ns (by grind),n2];simp[cv]
   grind
 case slice el=>
  cases ds<;>simp only[reduceCtorEq]at e
  simp only[qD]at e;obtain⟨de,PD,e⟩:=e;have SH:de=.int .u8∧∃sz,aK P el=some sz∧Nat.beq sz 1=true∧Bk h el a fin=some (v,h'):=by
   grind
  obtain⟨rfl,sz,bz,sW,e2⟩:=SH;have sW:=zF sW;subst sW;unfold Bk at e2
  split at e2
  ·rename_i s';simp only[jL,qU]at e2;obtain⟨sU,rfl,rfl⟩:=e2;have sU:=zN sU;have lO:(ByteArray.mk s'.toArray).size=s'.length:=by rfl
   have sR:aQ m (s'.map λ(c:UInt8)=>AV.int .u8 (.ofNat c.toNat))=s'.map λb=>Value.int .u8 b.toNat:=by rw[ye,List.map_map];rfl
   have hq:∃cap,s'.length≤cap∧(choose (.appendCap (ByteArray.mk s'.toArray).size 0 el)).run P w=.ok cap { w with drawn:=w.drawn+1 }:=by refine⟨(Question.appendCap (ByteArray.mk s'.toArray).size 0 el).cut (w.tape w.drawn (.appendCap (ByteArray.mk s'.toArray).size 0 el)),?_,rfl⟩;grind[Question.cut]
   obtain⟨cap,u4,mO⟩:=hq;have hlen:(s'.map λ(c:UInt8)=>AV.int .u8 (.ofNat c.toNat)).length=s'.length:=by simp
   generalize hC:((aQ m (s'.map λ(c:UInt8)=>AV.int .u8 (.ofNat c.toNat))).toArray++Array.replicate (cap-s'.length) (Value.int .u8 0))=C;have hCs:C.size=cap:=by grind
   obtain⟨ex,re⟩:=R.new (.cells (CT.ofList (s'.map λ(c:UInt8)=>AV.int .u8 (.ofNat c.toNat))) el true) (.cells C el (C.size,C.size+1)) cap
    (w0:={ w with drawn:=w.drawn+1,heap:=w.heap.push (.cells C el (C.size,C.size+1)) }) rfl rfl rfl rfl
    (by simp only[cM,CT.aZ];rw[vo];intro x hx;rw[List.mem_map]at hx;obtain⟨y,_,rfl⟩:=hx;trivial)
    (jZd (CT.aZ _) (rest:=Array.replicate (cap-s'.length) (Value.int .u8 0)) bz (by grind) aM (by
     grind))
   refine⟨_,_,_,.inl ?_,ex,re,.inl rfl⟩;have conv:(convert s d (cv m (.str s'))).run P w=(Conv.stringToBytes el ⟨s'.toArray⟩).run P w:=by simp_all[convert,Ae.run_underlying,cv]
   have s2b:(Conv.stringToBytes el ⟨s'.toArray⟩).run P w=.ok (.slice (some ⟨w.heap.size,0,none⟩) s'.length cap) { w with drawn:=w.drawn+1,heap:=w.heap.push (.cells C el (C.size,C.size+1)) }:=by
    unfold Conv.stringToBytes;rw[qV mO];have nT:((ByteArray.mk s'.toArray).data.map λb=>Value.int .u8 b.toNat)++Array.replicate (cap-(ByteArray.mk s'.toArray).size) (Value.int .u8 0)=C:=by grind
    simp only[nT];rw[qV (kS el C)];have Hd:(markStringish ⟨w.heap.size,0,none⟩).run P { w with drawn:=w.drawn+1,heap:=w.heap.push (.cells C el) }=.ok () { w with drawn:=w.drawn+1,heap:=w.heap.push (.cells C el (C.size,C.size+1)) }:=by
     unfold markStringish;have FQ:(shape w.heap.size).run P { w with drawn:=w.drawn+1,heap:=w.heap.push (.cells C el) }=.ok (some (el,C.size)) { w with drawn:=w.drawn+1,heap:=w.heap.push (.cells C el) }:=by simp[World.shape?]
     rw[qV FQ];show Result.ok () (World.freeze _ _ _)=_;simp only[World.freeze]
     congr 1
     simp only[Nat.one_ne_zero,if_false]
     congr 1
     grind
    simp_all
   simp_all[cv]
  grind
theorem qvo {t:TypeId} {x:Operand} (ho:o.op=.range t x) (hr:dR m D ρ r) (R:Rel P m D h w) (e:aX P c o.op r h fin=some (v,h')):dI P m D h w ((execOp ρ o).run P w) v h':=by
 rw[ho]at e;simp only[aX,qD]at e;obtain⟨d,hd,e⟩:=e;cases d<;>simp only[reduceCtorEq]at e
 simp only[qD]at e;obtain⟨a,ha,e⟩:=e;obtain⟨a1,a2⟩:=hr _ _ ha;simp only[execOp,ho,a1];unfold KC at e
 split at e
 ·rename_i s;simp only[qU]at e;obtain⟨rfl,rfl⟩:=e;refine Nx R (b:=.iter s 0) (ob_:=.stringIter ⟨s.toArray⟩ 0) (room:=0) (w0:={ w with heap:=w.heap.push (.stringIter ⟨s.toArray⟩ 0) }) ?_ rfl rfl rfl rfl trivial ?_ (.inl rfl)
  ·simp_all[Instr.range,Ae.run_underlying,cv,pure]
  ·show(w.heap.push _)[w.heap.size]? =_;simp
 grind
theorem qyM {t:Operand} {b:Bool} (ho:o.op=.next t b) (hr:dR m D ρ r) (R:Rel P m D h w) (e:aX P c o.op r h fin=some (v,h')):dI P m D h w ((execOp ρ o).run P w) v h':=by
 rw[ho]at e;simp only[aX,zM,qD]at e;obtain⟨rfl,a,ha,e⟩:=e;obtain⟨a1,a2⟩:=hr _ _ ha;simp only[execOp,ho,a1];unfold Mq at e
 split at e
 ·rename_i q
  split at e
  ·rename_i s pos hg;obtain⟨x,hx,nQ,_⟩:=R.bR q a2;rw[hg]at hx;cases hx;have bF:w.heap[(m q).1]? =some (.stringIter ⟨s.toArray⟩ pos):=nQ;have cR:(getObj (m q).1).run P w=.ok (.stringIter ⟨s.toArray⟩ pos) w:=by
    grind[getObj,Sem.run]
   have lO:(ByteArray.mk s.toArray).size=s.length:=by rfl
   cases hp:Nat.ble (pos+1) s.length
   ·have PE:=KG hp;rw[hp]at e;simp only[cond_false,qU]at e;obtain⟨rfl,rfl⟩:=e;refine zw R ?_ ⟨trivial,trivial⟩;unfold Instr.next;simp only[cv];rw[qV cR];simp only[];rw[iQ (by grind)];rfl
   ·have PE:=zN hp;rw[hp]at e;simp only[cond_true,qU]at e;obtain⟨rfl,rfl⟩:=e;have ap:(m q).1<w.heap.size:=(Array.getElem?_eq_some_iff.1 bF).1;have u5:(setObj (m q).1 (.stringIter ⟨s.toArray⟩ (pos+(Utf8.decode ⟨s.toArray⟩ pos).2))).run P w=.ok () { w with heap:=w.heap.setIfInBounds (m q).1 (.stringIter ⟨s.toArray⟩ (pos+(Utf8.decode ⟨s.toArray⟩ pos).2)) }:=by
     grind[setObj,Sem.run]
    obtain⟨ex,re⟩:=R.put q (.iter s (pos+(Utf8.decode ⟨s.toArray⟩ pos).2)) (w0:={ w with heap:=w.heap.setIfInBounds (m q).1 (.stringIter ⟨s.toArray⟩ (pos+(Utf8.decode ⟨s.toArray⟩ pos).2)) }) a2 (Vq hg trivial) aM
     (λc hc=>by grind) rfl rfl rfl trivial (by
      show(w.heap.setIfInBounds _ _)[(m q).1]? =_
      grind)
    refine⟨m,D,_,.inl ?_,ex,re,⟨trivial,trivial,trivial,trivial⟩⟩;have:(Instr.next (cv m (.ptr q 0)) true o.type).run P w=.ok (cv m (.cA [.bool true,.int .i64 (.ofNat pos),.int .i32 (Utf8.decode ⟨s.toArray⟩ pos).1])) { w with heap:=w.heap.setIfInBounds (m q).1 (.stringIter ⟨s.toArray⟩ (pos+(Utf8.decode ⟨s.toArray⟩ pos).2)) }:=by unfold Instr.next;simp only[cv];rw[qV cR];simp only[];rw[iJ (by grind)];rw[qV u5];rfl
    simp_all
  grind
 grind
end Go.Ae
namespace Go.Ae
open Go
variable {P:Program} {m:Mp} {D:Nat→Prop} {h h':AH} {w:World} {c:CV} {ρ:Operand→Value} {r:Operand→Option AV} {o:Oper} {v:AV}
theorem GV {t:TypeId} (e:CA P t=true):∃kt et,P.underlying t=some (.map kt et)∧P.underlying kt=some (.int .i64)∧ff P et=some (.int .i64 (.ofNat 0)):=by
 grind[CA]
theorem Qc {b:Bool} {kt:TypeId} {x:Int} (hk:P.underlying kt=some (.int .i64)):(Instr.checkKey b 10000 kt (.int .i64 x)).run P w=.ok () w:=by show(Instr.checkKey b (9999+1) kt (.int .i64 x)).run P w=_;unfold Instr.checkKey;simp_all[Ae.run_underlying]
theorem SJ (a b:Int):ny a b=(a==b):=by rw[← Sv];exact(by
 cases a with
 |ofNat a=>cases b with
  |ofNat b=>
   show Nat.beq a b=(Int.ofNat a==Int.ofNat b);by_cases h:a=b
   all_goals grind[Nat.beq_refl,yY]
  |negSucc b=>rfl
 |negSucc a=>cases b with
  |ofNat b=>rfl
  |negSucc b=>
   show Nat.beq a b=(Int.negSucc a==Int.negSucc b);by_cases h:a=b
   all_goals grind[Nat.beq_refl,yY])
theorem jJF {x:Int}:∀(l:List (Int×Int×Nat)) (i:Nat),Instr.findNow (.int .i64) (.int .i64 x) (l.map xA) i=some ((QT x l i).map λe=>(e.1,Value.int .i64 e.2.1)):=by
 intro l
 induction l with
 |nil=>intro i;rfl
 |cons e l ih=>
  intro i
  show(match Instr.sameNow (.int .i64) (.int .i64 x) (xA e).key with
   |some true=>some (some (i,(xA e).val))
   |some false=>Instr.findNow (.int .i64) (.int .i64 x) (l.map xA) (i+1)
   |none=>none)=_
  have hs:Instr.sameNow (.int .i64) (.int .i64 x) (xA e).key=some (x==e.1):=by rfl
  rw[hs];unfold QT;rw[SJ];cases hb:(x==e.1)
  ·grind
  rfl
theorem J3 {kt:TypeId} {x:Int} {l:List (Int×Int×Nat)} (hk:P.underlying kt=some (.int .i64)):(Instr.findKey kt (.int .i64 x) (l.map xA).toArray.toList).run P w=.ok ((QT x l 0).map λe=>(e.1,Value.int .i64 e.2.1)) w:=by simp_all[Instr.findKey,Ae.run_underlying,jJF]
theorem Jx {b:Nat} {l:List (Int×Int×Nat)} {q:Nat} (hh:w.heap[b]? =some (.map (l.map xA).toArray q)):(getObj b).run P w=.ok (.map (l.map xA).toArray q) w:=by grind[getObj,Sem.run]
theorem wz {b:Nat} {es:Array MapEntry} {q:Nat} {o2:Obj} (hh:w.heap[b]? =some (.map es q)):(setObj b o2).run P w=.ok () { w with heap:=w.heap.setIfInBounds b o2 }:=by grind[setObj,Sem.run]
theorem Nv {x:Int}:∀{l:List (Int×Int×Nat)} {i:Nat} {e:Nat×Int×Nat},QT x l i=some e→i≤e.1∧l[e.1-i]? =some (x,e.2):=by
 intro l
 induction l with
 |nil=>nofun
 |cons a l ih=>
  intro i e h;unfold QT at h;rw[SJ]at h;grind
theorem Y8 (R:Rel P m D h w) {b:Nat} {l l2:List (Int×Int×Nat)} {q q2:Nat} (hd:D b) (hg:h.get b=some (.mp l q)) :
  ∃w0,w0={ w with heap:=w.heap.setIfInBounds (m b).1 (.map (l2.map xA).toArray q2) }∧Ext m D h w m D (h.put b (.mp l2 q2)) w0∧Rel P m D (h.put b (.mp l2 q2)) w0:=by
 obtain⟨x,hx,nQ,_⟩:=R.bR b hd;rw[hg]at hx;cases hx;have bF:w.heap[(m b).1]? =some (.map (l.map xA).toArray q):=nQ;have ap:(m b).1<w.heap.size:=(Array.getElem?_eq_some_iff.1 bF).1
 refine⟨_,rfl,R.put b (.mp l2 q2) (w0:={ w with heap:=w.heap.setIfInBounds (m b).1 (.map (l2.map xA).toArray q2) }) hd (Vq hg trivial) aM
  (λc hc=>by grind) rfl rfl rfl trivial (by
   show(w.heap.setIfInBounds _ _)[(m b).1]? =_
   grind)⟩
theorem qVn {t:TypeId} {hint:Option Operand} (ho:o.op=.makeMap t hint) (R:Rel P m D h w) (e:aX P c o.op r h fin=some (v,h')):dI P m D h w ((execOp ρ o).run P w) v h':=by
 rw[ho]at e;simp only[aX]at e;cases hint with
 |some x=>grind
 |none=>
  simp only[zM]at e;obtain⟨_,e⟩:=e;unfold XZ at e;simp only[qU]at e;obtain⟨rfl,rfl⟩:=e;simp only[execOp,ho];refine Nx R (b:=.mp [] 0) (ob_:=.map #[] 0) (room:=0) (w0:={ w with heap:=w.heap.push (.map #[] 0) }) ?_ rfl rfl rfl rfl trivial ?_ (.inl rfl)
  ·simp[Instr.makeMap,cv]
  ·show(w.heap.push _)[w.heap.size]? =_;simp
theorem qxu {t:TypeId} {x i:Operand} {ok:Bool} (ho:o.op=.lookup t x i ok) (hr:dR m D ρ r) (R:Rel P m D h w) (e:aX P c o.op r h fin=some (v,h')):dI P m D h w ((execOp ρ o).run P w) v h':=by
 rw[ho]at e;simp only[aX,zM,Bool.and_eq_true,Bool.not_eq_true',qD]at e;obtain⟨⟨hm,rfl⟩,a,ha,j,hj,e⟩:=e;obtain⟨kt,et,h1,h2,h3⟩:=GV hm;obtain⟨a1,a2⟩:=hr _ _ ha;obtain⟨j1,j2⟩:=hr _ _ hj;simp only[execOp,ho,a1,j1];unfold KY at e
 split at e
 rotate_left
 ·grind
 rename_i b y
 split at e
 rotate_left
 ·grind
 rename_i l q hg;obtain⟨x',lz,nQ,_⟩:=R.bR b a2;rw[hg]at lz;cases lz;have bF:w.heap[(m b).1]? =some (.map (l.map xA).toArray q):=nQ;have key:∀z:Int,(match QT y l 0 with |some e=>e.2.1 |none=>0)=z→(Instr.lookup t (cv m (.da b)) (cv m (.int .i64 y)) false).run P w=.ok (.int .i64 z) w:=by
  intro z hz;unfold Instr.lookup;rw[qV (Ae.run_underlying h1)];simp only[cv];rw[qV (Jx bF)];simp only[];rw[qV (show(pure (l.map xA).toArray:Sem (Array MapEntry)).run P w=.ok (l.map xA).toArray w from rfl)];rw[qV (Qc h2),qV (J3 h2)];cases hf:QT y l 0 with
  |some e=>simp_all
  |none=>rw[hf]at hz;simp only[Option.map_none];have SL:=(yI (w:=w) (m:=m) (D:=D) h3).1;rw[qV SL];rw[← hz];rfl
 split at e
 ·rename_i e1 hf;simp only[qU]at e;obtain⟨rfl,rfl⟩:=e;exact zw R (key e1.2.1 (by rw[hf])) trivial
 ·rename_i hf;simp only[qU]at e;obtain⟨rfl,rfl⟩:=e;exact zw R (key 0 (by rw[hf])) trivial
theorem qZ2 {es:Array MapEntry} {i:Nat} {f:MapEntry→MapEntry} (h:∀e,es[i]? =some e→f e=e):es.modify i f=es:=by
 grind
theorem qyP {t:TypeId} {x i:Operand} (ho:o.op=.mapEntry t x i) (hr:dR m D ρ r) (R:Rel P m D h w) (e:aX P c o.op r h fin=some (v,h')):dI P m D h w ((execOp ρ o).run P w) v h':=by
 rw[ho]at e;simp only[aX,zM,qD]at e;obtain⟨hm,a,ha,j,hj,e⟩:=e;obtain⟨kt,et,h1,h2,h3⟩:=GV hm;obtain⟨a1,a2⟩:=hr _ _ ha;obtain⟨j1,j2⟩:=hr _ _ hj;simp only[execOp,ho,a1,j1];unfold Vb at e
 split at e
 rotate_left
 ·grind
 rename_i b y
 split at e
 rotate_left
 ·grind
 rename_i l q hg;obtain⟨x',lz,nQ,_⟩:=R.bR b a2;rw[hg]at lz;cases lz;have bF:w.heap[(m b).1]? =some (.map (l.map xA).toArray q):=nQ
 have start:∀{z:Value} {w0:World},((do
   match(QT y l 0).map λe=>(e.1,Value.int .i64 e.2.1)with
   |some (i,v)=>
    let key ← Instr.keyThatStays ((((l.map xA).toArray[i]?).map (·.key)).getD (.int .i64 y)) (.int .i64 y)
    setObj (m b).1 (.map ((l.map xA).toArray.modify i λe=>{ e with key }) q)
    pure (.tuple #[v,goInt ((((l.map xA).toArray[i]?).map (·.born)).getD 0)])
   |none=>
    let zero ← zeroValue et
    setObj (m b).1 (.map ((l.map xA).toArray.push { key:=.int .i64 y,val:=zero,born:=q }) (q+1))
    pure (.tuple #[zero,goInt q]):Sem Value).run P w=.ok z w0)→(Instr.mapEntry t (cv m (.da b)) (cv m (.int .i64 y))).run P w=.ok z w0:=by
  intro z w0 hz;unfold Instr.mapEntry;rw[qV (Ae.run_underlying h1)];simp only[cv];rw[qV (Jx bF)];simp only[];rw[qV (Qc h2),qV (J3 h2)];grind
 split at e
 ·rename_i e1 hf;simp only[qU]at e;obtain⟨rfl,rfl⟩:=e;obtain⟨_,cx⟩:=Nv hf;rw[Nat.sub_zero]at cx;have po:(l.map xA).toArray[e1.1]? =some (xA (y,e1.2)):=by
   grind
  refine zw R (start ?_) ⟨trivial,trivial,trivial⟩;rw[hf];simp only[Option.map_some,po,Option.getD_some];have hk:(Instr.keyThatStays (xA (y,e1.2)).key (.int .i64 y)).run P w=.ok (.int .i64 y) w:=by
   simp[Instr.keyThatStays,Instr.sameBits,xA]
  rw[qV hk];rw[qZ2 (λe he=>by rw[po]at he;cases he;rfl)];rw[qV (wz bF)];have ig:w.heap.setIfInBounds (m b).1 (.map (l.map xA).toArray q)=w.heap:=by
   grind
  rw[ig];rfl
 ·rename_i hf;simp only[qU]at e;obtain⟨rfl,rfl⟩:=e;obtain⟨w0,ly,X,R2⟩:=Y8 R (l2:=l++[(y,Int.ofNat 0,q)]) (q2:=q+1) a2 hg;refine⟨m,D,w0,.inl ?_,X,R2,⟨trivial,trivial,trivial⟩⟩;have SL:=(yI (w:=w) (m:=m) (D:=D) h3).1
  have:=start (z:=.tuple #[.int .i64 0,goInt q]) (w0:=w0) (by
   rw[hf];simp only[Option.map_none];rw[qV SL,qV (wz bF)];simp_all[xA,cv])
  rw[qV this];rfl
theorem qxa {x:Int}:∀{l:List (Int×Int×Nat)} {i j:Nat},Ph x l i=some j→i≤j∧(l.map xA).findIdx? (λe=>(e.born:Int)==x)=some (j-i):=by
 intro l
 induction l with
 |nil=>nofun
 |cons a l ih=>
  intro i j h;unfold Ph at h;rw[SJ]at h;rw[List.map_cons,List.findIdx?_cons];have pX:((xA a).born:Int)=Int.ofNat a.2.2:=rfl;rw[pX];cases hb:(Int.ofNat a.2.2==x)
  ·grind
  simp_all
theorem qxO {y:Int}:∀{l:List (Int×Int×Nat)} {i:Nat},(yO y l i).map xA=(l.map xA).modify i λe=>{ e with val:=.int .i64 y }:=by
 intro l
 induction l with
 |nil=>intro i;cases i<;>rfl
 |cons a l ih=>
  intro i;cases i with
  |zero=>rfl
  |succ i=>grind[xA,yO]
theorem jJL {t:TypeId} {x s y:Operand} (ho:o.op=.entryStore t x s y) (hr:dR m D ρ r) (R:Rel P m D h w) (e:aX P c o.op r h fin=some (v,h')):dI P m D h w ((execOp ρ o).run P w) v h':=by
 rw[ho]at e;simp only[aX,qD]at e;obtain⟨a,ha,j,hj,u,hu,e⟩:=e;obtain⟨a1,a2⟩:=hr _ _ ha;obtain⟨j1,j2⟩:=hr _ _ hj;obtain⟨u1,u2⟩:=hr _ _ hu;simp only[execOp,ho,a1,j1,u1];unfold Cz at e
 split at e
 rotate_left
 ·grind
 rename_i b x0 z
 split at e
 rotate_left
 ·grind
 rename_i l q hg;obtain⟨x',lz,nQ,_⟩:=R.bR b a2;rw[hg]at lz;cases lz;have bF:w.heap[(m b).1]? =some (.map (l.map xA).toArray q):=nQ
 split at e
 rotate_left
 ·grind
 rename_i i hf;simp only[qU]at e;obtain⟨rfl,rfl⟩:=e;obtain⟨_,PF⟩:=qxa hf;rw[Nat.sub_zero]at PF;obtain⟨w0,ly,X,R2⟩:=Y8 R (l2:=yO z l i) (q2:=q) a2 hg;refine⟨m,D,w0,.inr ⟨?_,rfl⟩,X,R2,trivial⟩;have:(Instr.entryStore t (cv m (.da b)) (cv m (.int .i64 x0)) (cv m (.int .i64 z))).run P w=.ok () w0:=by
  unfold Instr.entryStore;simp only[cv];rw[qV (Jx bF)];simp only[];rw[qV (show(asInt (.int .i64 x0)).run P w=.ok x0 w from rfl)];have hfa:(l.map xA).toArray.findIdx? (λe=>(e.born:Int)==x0)=some i:=by grind
  grind[xA,yO,qxO,wz]
 simp_all
theorem qjO {x y:Int}:∀{l:List (Int×Int×Nat)} {i:Nat},(∀e,l[i]? =some e→e.1=x)→(yO y l i).map xA=(l.map xA).modify i λe=>{ e with key:=.int .i64 x,val:=.int .i64 y }:=by
 intro l
 induction l with
 |nil=>intro i _;cases i<;>rfl
 |cons a l ih=>
  intro i hx;cases i with
  |zero=>have:=hx a rfl;subst this;rfl
  |succ i=>grind[xA,yO]
theorem qyh {t:TypeId} {x s y:Operand} (ho:o.op=.mapUpdate t x s y) (hr:dR m D ρ r) (R:Rel P m D h w) (e:aX P c o.op r h fin=some (v,h')):dI P m D h w ((execOp ρ o).run P w) v h':=by
 rw[ho]at e;simp only[aX,zM,qD]at e;obtain⟨hm,a,ha,j,hj,u,hu,e⟩:=e;obtain⟨kt,et,h1,h2,h3⟩:=GV hm;obtain⟨a1,a2⟩:=hr _ _ ha;obtain⟨j1,j2⟩:=hr _ _ hj;obtain⟨u1,u2⟩:=hr _ _ hu;simp only[execOp,ho,a1,j1,u1];unfold MU at e
 split at e
 rotate_left
 ·grind
 rename_i b x0 z
 split at e
 rotate_left
 ·grind
 rename_i l q hg;obtain⟨x',lz,nQ,_⟩:=R.bR b a2;rw[hg]at lz;cases lz;have bF:w.heap[(m b).1]? =some (.map (l.map xA).toArray q):=nQ
 have start:∀{w0:World},((do
   match(QT x0 l 0).map λe=>(e.1,Value.int .i64 e.2.1)with
   |some (i,_)=>do
    let key ← Instr.keyThatStays ((((l.map xA).toArray[i]?).map (·.key)).getD (.int .i64 x0)) (.int .i64 x0)
    setObj (m b).1 (.map ((l.map xA).toArray.modify i λe=>{ e with key,val:=.int .i64 z }) q)
   |none=>setObj (m b).1 (.map ((l.map xA).toArray.push { key:=.int .i64 x0,val:=.int .i64 z,born:=q }) (q+1)):Sem Unit).run P w=.ok () w0)→(Instr.mapUpdate t (cv m (.da b)) (cv m (.int .i64 x0)) (cv m (.int .i64 z))).run P w=.ok () w0:=by
  intro w0 hz;unfold Instr.mapUpdate;rw[qV (Ae.run_underlying h1)];simp only[cv];rw[qV (Jx bF)];simp only[];rw[qV (Qc h2),qV (J3 h2)];grind
 split at e
 ·rename_i e1 hf;simp only[qU]at e;obtain⟨rfl,rfl⟩:=e;obtain⟨_,cx⟩:=Nv hf;rw[Nat.sub_zero]at cx;have po:(l.map xA).toArray[e1.1]? =some (xA (x0,e1.2)):=by
   grind
  obtain⟨w0,ly,X,R2⟩:=Y8 R (l2:=yO z l e1.1) (q2:=q) a2 hg;refine⟨m,D,w0,.inr ⟨?_,rfl⟩,X,R2,trivial⟩
  have:=start (w0:=w0) (by
   rw[hf];simp only[Option.map_some,po,Option.getD_some];have hk:(Instr.keyThatStays (xA (x0,e1.2)).key (.int .i64 x0)).run P w=.ok (.int .i64 x0) w:=by
    simp[Instr.keyThatStays,Instr.sameBits,xA]
   rw[qV hk];have e2:(l.map xA).toArray.modify e1.1 (λe=>{ e with key:=.int .i64 x0,val:=.int .i64 z })=((yO z l e1.1).map xA).toArray:=by simp_all[qjO,List.modify_toArray]
   grind[wz])
  simp_all
 ·rename_i hf;simp only[qU]at e;obtain⟨rfl,rfl⟩:=e;obtain⟨w0,ly,X,R2⟩:=Y8 R (l2:=l++[(x0,z,q)]) (q2:=q+1) a2 hg;refine⟨m,D,w0,.inr ⟨?_,rfl⟩,X,R2,trivial⟩
  have:=start (w0:=w0) (by
   grind[xA,wz])
  simp_all
theorem qql {α β:Type} {f:α→β}:∀{l:List α} {i:Nat},(l.eraseIdx i).map f=(l.map f).eraseIdx i:=by
 intro l
 induction l with
 |nil=>simp
 |cons a l ih=>
  intro i;cases i with
  |zero=>rfl
  |succ i=>grind
theorem qyN {cl:Call} (ho:o.op=.call cl) (hc:cl.callee=.builtin .delete) (hr:dR m D ρ r) (R:Rel P m D h w) (e:aX P c o.op r h fin=some (v,h')):dI P m D h w ((execOp ρ o).run P w) v h':=by
  obtain⟨cs,hx⟩:=kQ (P:=P) (w:=w) (ρ:=ρ) ho hc;rw[ho]at e;simp only[aX,hc]at e
  split at e
  rotate_left
  · grind
  rename_i s x t ts ha cx;simp only[zM,qD]at e;obtain⟨hm,a,hs,j,hj,e⟩:=e;obtain⟨kt,et,h1,h2,h3⟩:=GV hm;obtain⟨a1,a2⟩:=hr _ _ hs;obtain⟨j1,j2⟩:=hr _ _ hj;rw[hx,vN ha,vN cx];simp only[List.map_toArray,List.map_cons,List.map_nil,a1,j1];unfold NI at e
  split at e
  rotate_left
  · grind
  rename_i b y
  split at e
  rotate_left
  · grind
  rename_i l q hg;obtain⟨x',lz,nQ,_⟩:=R.bR b a2;rw[hg]at lz;cases lz;have bF:w.heap[(m b).1]? =some (.map (l.map xA).toArray q):=nQ
  have bn : ∀ {l2 : List (Int × Int × Nat)} {w0 : World}, w0 = { w with heap := w.heap.setIfInBounds (m b).1 (.map (l2.map xA).toArray q) } → ((do
        match(QT y l 0).map λe=>(e.1,Value.int .i64 e.2.1)with
        |some (i,_)=>setObj (m b).1 (.map ((l.map xA).toArray.eraseIdxIfInBounds i) q)
        |none=>setObj (m b).1 (.map (l.map xA).toArray q):Sem Unit).run P w=.ok () w0)→
      (builtin .delete (t::ts).toArray o.type cs #[cv m (.da b),cv m (.int .i64 y)]).run P w=.ok (.value (.tuple #[])) w0:=by
    intro l2 w0 _ hz;show(do pure (Next.value (← Builtin.delete_ (t::ts).toArray o.type #[cv m (.da b),cv m (.int .i64 y)])):Sem Next).run P w=_;have:(Builtin.delete_ (t::ts).toArray o.type #[cv m (.da b),cv m (.int .i64 y)]).run P w=.ok (.tuple #[]) w0:=by
      unfold Builtin.delete_;simp only[List.getElem?_toArray,List.getElem?_cons_zero];rw[show([cv m (.da b),cv m (.int .i64 y)]:List Value)[1]? =some (cv m (.int .i64 y))from rfl];simp only[];rw[qV (Ae.run_underlying h1)];simp only[cv];rw[qV (Jx bF)];simp only[];rw[qV (Qc h2),qV (J3 h2)];split<;>simp_all
    simp_all
  split at e
  · rename_i e1 hf;simp only[qU]at e;obtain⟨rfl,rfl⟩:=e;obtain⟨_,po⟩:=Nv hf;rw[Nat.sub_zero]at po;have ap:e1.1<l.length:=(List.getElem?_eq_some_iff.1 po).1;obtain⟨w0,ly,X,R2⟩:=Y8 R (l2:=l.eraseIdx e1.1) (q2:=q) a2 hg;refine⟨m,D,w0,.inl (bn ly ?_),X,R2,trivial⟩;grind[xA,qql,wz]
  · rename_i hf;simp only[qU]at e;obtain⟨rfl,rfl⟩:=e;obtain⟨w0,ly,X,R2⟩:=Y8 R (l2:=l) (q2:=q) a2 hg;refine⟨m,D,w0,.inl (bn ly ?_),X,R2,trivial⟩;grind[wz]
end Go.Ae
namespace Go.Ae
open Go
variable {P:Program} {m:Mp} {D:Nat→Prop} {h h':AH} {w:World} {c:CV} {ρ:Operand→Value} {r:Operand→Option AV} {o:Oper} {v:AV}
theorem jQ7 (He:∀cl f,o.op=.call cl→cl.callee≠.value f) (lJ:∀cl x n,o.op=.call cl→cl.callee≠.invoke x n) (hr:dR m D ρ r) (R:Rel P m D h w) (e:dt P c o.op r h=some (v,h')):dI P m D h w ((execOp ρ o).run P w) v h':=by
 have e:aX P c o.op r h fin=some (v,h'):=e;cases ho:o.op with
 |move x=>exact qw1 ho hr R e
 |assign x=>exact qY5 ho hr R e
 |pick x y z=>exact qgn ho hr R e
 |alloc t=>exact qzd ho R e
 |box t x=>exact jZC ho hr R e
 |build t p=>exact qz0 ho hr R e
 |buildSlice t n p=>exact qqb ho hr R e
 |load t x=>exact qwp ho hr R e
 |store t x y=>exact qxE ho hr R e
 |nilCheck x=>exact jZt ho hr R e
 |binOp op t x y u=>exact jJS ho hr R e
 |unOp op t x=>exact FP ho hr R e
 |convert s d x=>exact jQF ho hr R e
 |makeInterface t x=>exact qkR ho hr R e
 |makeFunc f x y=>exact qJi ho hr R e
 |makeSlice t x y=>exact jQa ho hr R e
 |slice t x lo hi mx=>exact qkT ho hr R e
 |fieldAddr t x f=>exact qxF ho hr R e
 |field t x f=>exact qgd ho hr R e
 |indexAddr t x i=>exact Z5 ho hr R e
 |index t x i=>exact qxc ho hr R e
 |typeAssert x xt t ok=>exact qjM ho hr R e
 |extract x i=>exact qKI ho hr R e
 |range t x=>exact qvo ho hr R e
 |next x b=>exact qyM ho hr R e
 |makeMap t x=>exact qVn ho R e
 |lookup t x y b=>exact qxu ho hr R e
 |mapEntry t x y=>exact qyP ho hr R e
 |mapUpdate t x y z=>exact qyh ho hr R e
 |entryStore t x y z=>exact jJL ho hr R e
 |call cl=>
  cases hc:cl.callee with
  |value f=>simp_all
  |invoke a b=>simp_all
  |builtin b=>
   cases b with
   |len=>exact jJU ho hc hr R e
   |min=>exact jQ2 (mx:=false) ho hc hr R e
   |max=>exact jQ2 (mx:=true) ho hc hr R e
   |append=>exact qqs ho hc hr R e
   |copy=>exact qgm ho hc hr R e
   |delete=>exact qyN ho hc hr R e
   |_=>rw[ho]at e;simp only[aX,hc,reduceCtorEq]at e
 |_=>rw[ho]at e;simp only[aX,reduceCtorEq]at e
end Go.Ae
namespace Go.Ae
open Go
variable {P:Program} {m:Mp} {D:Nat→Prop} {h h':AH} {w:World} {c:CV} {o:Oper} {v:AV}
def FW (rd:Option Nat):Fence:={ Fence.wide with round:=rd }
def JY (P:Program) (m:Mp) (D:Nat→Prop) (h:AH) (w:World) (r:AV×AH):Ending→World→Prop :=
 λe w'=>∃m' D',e=.returned (cv m' r.1)∧Ext m D h w m' D' r.2 w'∧Rel P m' D' r.2 w'∧br D' r.1
def PG (P:Program) (m:Mp) (D:Nat→Prop) (h:AH) (w:World) (args:List AV) (r:AV×AH):AV→Prop
 | .fn f first cap=>(∀as W,(callFunc f as).run P W=.ok (.enter f as) W)∧∀n,CallsIn Fence.wide n P f (aQ m (first++args++cap)).toArray w (JY P m D h w r)
 | .yield l=>∃f' tmps assign body,(Instr.yield (m l).1 (aQ m args).toArray).run P w=.ok (.round (m l).1 f' tmps assign body) w∧∀n,RoundIn Fence.wide n P (m l).1 f' tmps assign body w (JY P m D h w r)
 |_=>False
def vK (P:Program) (c:CV):Prop :=
 ∀vf args h r,c vf args h=some r→∀m D w,Rel P m D h w→br D vf→aY D args→PG P m D h w args r vf
theorem qZf (m:Mp):cv m .undef=undef:=rfl
theorem qzm {l:List (Nat×Nat)} {t f:Nat} (e:Zz l t=some f):(t,f)∈l:=by
 induction l with
 |nil=>cases e
 |cons p l ih=>
  have e':Bool.rec (motive:=λ_=>Option Nat) (Zz l t) (some p.2) (Nat.beq p.1 t)=some f:=e;cases hb:Nat.beq p.1 t
  ·simp_all
  ·rw[hb]at e';have:=zF hb;grind
theorem qvR {name:String} {t f:Nat}:∀{L:List Nat},(t,f)∈FA P name L→Zr P name t=some f:=by
 intro L
 induction L with
 |nil=>nofun
 |cons a L ih=>
  grind[FA]
theorem qVb {name:String} {t f:Nat} (e:Zr P name t=some f) (n:Nat) (x:Value) (w:World):(method (n+1) t x name).run P w=.ok (f,x) w:=by
 simp only[Zr,Option.bind_eq_some_iff]at e;obtain⟨i,hi,mm,hm,e⟩:=e;rw[jL]at e;obtain⟨hp,e⟩:=e;simp only[Option.bind_eq_some_iff]at e;obtain⟨g,hg,e⟩:=e;obtain⟨gf,gb⟩:=g;rw[jL]at e;obtain⟨hb,e⟩:=e;simp only at hb;subst hb;simp only[Option.bind_eq_some_iff]at e;obtain⟨d,hd,e⟩:=e
 split at e
 ·rename_i el;cases e;have SN:mm.path= #[]:=by grind
  have hf:i.methods.find? (·.name==name)=some mm:=by grind
  unfold method;rw [qV (run_typeInfo hi)];simp only [hf, SN, hg];rw [qV (show (follow (#[] : Array FieldStep).toList t (.val x)).run P w = .ok (t, .val x) w from rfl)];simp only [];have hr : (receiverAt t (.val x) true (if (#[] : Array FieldStep).isEmpty = true then some ((name.splitOn ".").getLastD name) else none)).run P w = .ok x w := by unfold receiverAt;rw [qV (run_underlying hd)];rfl
  simp_all
 grind
theorem Hf (hc:vK P c) {rd:Option Nat} {n:Nat} {a:Act} {r:Operand→Option AV} (hr:dR m D a.eval r) (R:Rel P m D h w) (e:dt P c o.op r h=some (v,h'))
  {next:Act→World→Prop} {Q:Exit→Act→World→Prop}
  (hn:∀m' D' w',Ext m D h w m' D' h' w'→Rel P m' D' h' w'→br D' v→next (a.put o.dst (cv m' v)) w'):o.wpIn (FW rd) n P a w next Q:=by
 have hnd:∀cl,o.op≠.defer cl:=by grind
 refine⟨λ_ _=>trivial,?_⟩;rw[Oper.semAt_eq _ _ _ hnd];by_cases hv:∃cl f,o.op=.call cl∧cl.callee=.value f
 ·obtain⟨cl,f,ho,ij⟩:=hv;unfold dt at e;rw[ho]at e;simp only[aX,ij,qD]at e;obtain⟨vf,Bv,va,sZ,e⟩:=e;obtain⟨f1,f2⟩:=hr _ _ Bv;obtain⟨v1,v2⟩:=Jg hr sZ;rw[JH]at e
  split at e
  ·rename_i q hq;simp only[qU]at e;obtain⟨rfl,rfl⟩:=e;have cH:=hc vf va h q hq m D w R f2 v2;have l7:cl.args.map a.eval=(aQ m va).toArray:=by grind
   cases vf<;>simp only[PG]at cH
   case fn f' first cap=>
    obtain⟨k1,k2⟩:=cH;have cS:(execOp a.eval o).run P w=.ok (.enter f' (aQ m (first++va++cap)).toArray) w:=by
     simp only[execOp,ho];have h1:(resolve a.eval cl o.type).run P w=.ok { target:=.fn (.func f') (aQ m cap).toArray,args:=(aQ m first).toArray++(aQ m va).toArray } w:=by unfold resolve;rw[ij];simp only[f1,cv,l7];rfl
     grind[qV,invoke,aQ,callFunc,GJ]
    rw[cS];refine⟨(λhh=>by cases hh),?_⟩;refine CallsIn.mono (show CallsIn (FW rd) (n-1) P f' _ w _ from k2 (n-1)) ?_;rintro ee w' ⟨m',D',rfl,ex,re,hd⟩;grind
   case yield l=>
    obtain⟨f',tmps,assign,body,k1,k2⟩:=cH;have cS:(execOp a.eval o).run P w=.ok (.round (m l).1 f' tmps assign body) w:=by
     simp only[execOp,ho];have h1:(resolve a.eval cl o.type).run P w=.ok { target:=.fn (.yield (m l).1) #[],args:=(aQ m va).toArray } w:=by simp_all[resolve,cv,Deferred.ofValue]
     rw[qV h1];exact k1
    rw[cS];refine⟨(λhh=>by cases hh),?_⟩;refine RoundIn.mono (show RoundIn (FW rd) (n-1) P _ _ _ _ _ w _ from k2 (n-1)) ?_;rintro ee w' ⟨m',D',rfl,ex,re,hd⟩;grind
  grind
 ·have He:∀cl f,o.op=.call cl→cl.callee≠.value f:=λcl f h1 h2=>hv ⟨cl,f,h1,h2⟩;by_cases hi:∃cl x name,o.op=.call cl∧cl.callee=.invoke x name
  ·obtain⟨cl,x,name,ho,ij⟩:=hi;unfold dt at e;rw[ho]at e;simp only[aX,ij,qD]at e;obtain⟨vx,uZ,va,sZ,e⟩:=e;obtain⟨f1,f2⟩:=hr _ _ uZ;obtain⟨v1,v2⟩:=Jg hr sZ;unfold JT at e
   split at e
   ·rename_i t y;cases hf:Zz (Si P name) t with
    |none=>simp_all
    |some f=>
     rw[hf]at e;simp only[JH]at e
     split at e
     ·rename_i q hq;simp only[qU]at e;obtain⟨rfl,rfl⟩:=e;have cH:=hc (.fn f [] []) (y::va) h q hq m D w R ⟨trivial,trivial⟩ ⟨f2,v2⟩;obtain⟨k1,k2⟩:=cH;have l7:cl.args.map a.eval=(aQ m va).toArray:=by grind
      have cS:(execOp a.eval o).run P w=.ok (.enter f (aQ m (y::va)).toArray) w:=by
       simp only[execOp,ho];have h1:(resolve a.eval cl o.type).run P w=.ok { target:=.fn (.method name) #[],args:=#[.iface t (cv m y)]++(aQ m va).toArray } w:=by simp_all[resolve,cv]
       rw[qV h1];show(invoke (.fn (.method name) #[]) (#[.iface t (cv m y)]++(aQ m va).toArray)).run P w=_;unfold invoke;simp only[Array.getElem?_append,List.size_toArray,List.length_cons,List.length_nil,Nat.zero_add,Nat.lt_succ_self,if_true];show(callMethod (.iface t (cv m y)) name _).run P w=_;unfold callMethod;simp only[];rw[qV (show(program).run P w=.ok P w from rfl)];have Hg:(method (P.types.size+Made.depth) t (cv m y) name).run P w=.ok (f,cv m y) w:=qVb (qvR (qzm hf)) _ _ _;grind[qV,aQ,List.take_of_length_le]
      rw[cS];refine⟨(λhh=>by cases hh),?_⟩;have k3:=k2 (n-1);rw[List.nil_append,List.append_nil]at k3;refine CallsIn.mono (show CallsIn (FW rd) (n-1) P f _ w _ from k3) ?_;rintro ee w' ⟨m',D',rfl,ex,re,hd⟩;grind
     grind
   grind
  have lJ:∀cl x n,o.op=.call cl→cl.callee≠.invoke x n:=λcl x n h1 h2=>hi ⟨cl,x,n,h1,h2⟩;obtain⟨m',D',w',cI,ex,re,hd⟩:=jQ7 (o:=o) He lJ hr R e;rcases cI with cI |⟨cI,SQ⟩
  ·rw[cI];exact hn m' D' w' ex re hd
  ·rw[cI];have:=hn m' D' w' ex re hd;rw[SQ,qZf]at this;trivial
end Go.Ae
namespace Go.Ae
open Go
variable {P:Program} {m:Mp} {D:Nat→Prop} {h h':AH} {w:World} {c:CV} {o:Oper} {v:AV}
structure fA (m:Mp) (D:Nat→Prop) (n:Nat) (a:Act) (tm:PT AV):Prop where
  size:n≤a.tmps.size
  at_:∀t v,tm.get t=some v→a.tmps[t]? =some (cv m v)∧br D v
theorem fA.ev {n:Nat} {a:Act} {tm:PT AV} (T:fA m D n a tm):dR m D a.eval (ev tm):=by
 intro x v e;cases x with
 |tmp t=>simp only[Ae.ev]at e;obtain⟨h1,h2⟩:=T.at_ t v e;simp_all[Act.eval,Array.getD_eq_getD_getElem?,Option.getD_some]
 |const k=>simp only[Ae.ev]at e;obtain⟨h1,h2⟩:=XQ (m:=m) (D:=D) e;exact⟨h1.symm,h2⟩
 |global g=>trivial
 |func f=>simp only[Ae.ev,Option.some.injEq]at e;subst e;trivial
theorem fA.mono {m':Mp} {D':Nat→Prop} {w':World} {n:Nat} {a:Act} {tm:PT AV} (T:fA m D n a tm) (e:Ext m D h w m' D' h' w'):fA m' D' n a tm :=
 ⟨T.size,λt v hv=>by
  obtain⟨h1,h2⟩:=T.at_ t v hv
  exact⟨by rw[e.cv h2];grind,e.br h2⟩⟩
theorem fA.put {n:Nat} {a:Act} {tm:PT AV} (T:fA m D n a tm) {dst:Option Tmp} {k:PT AV→R} {r:AV×AH} (hv:br D v) (e:M4 n tm dst v k=some r) :
  ∃tm',k tm'=some r∧fA m D n (a.put dst (cv m v)) tm':=by
 cases dst with
 |none=>exact⟨tm,e,T⟩
 |some d=>
  simp only[M4,zM]at e;obtain⟨hd,e⟩:=e;have hd:=zN hd;refine⟨_,e,by simp[Act.put];exact T.size,?_⟩;intro t u hu;rw[PT.bN]at hu;by_cases ht:d=t
  ·subst ht;rw[iJ rfl]at hu;cases hu;refine⟨?_,hv⟩;have:=T.size;grind[Act.put,Array.getElem?_setIfInBounds_self]
  ·rw[iQ ht]at hu;obtain⟨h1,h2⟩:=T.at_ t u hu;grind[Act.put,Array.getElem?_setIfInBounds_ne]
theorem kM (a:Act) (dst:Option Tmp) (x:Value):(a.put dst x).defers=a.defers:=by cases dst<;>rfl
structure Bw (P:Program) (m:Mp) (D:Nat→Prop) (h:AH) (w:World) (n:Nat) (ds:List Deferred) (a:Act) (tm:PT AV) (m':Mp) (D':Nat→Prop) (h':AH) (w':World):Prop where
  ext:Ext m D h w m' D' h' w'
  rel:Rel P m' D' h' w'
  tm:fA m' D' n a tm
  defers:a.defers=ds
theorem Us {ops:Array Oper} {a:Act} {dst:Option Tmp} {x:Value} {g:Nat} {p:Oper} {d:Tmp} (hp:ops[g]? =some p) (hd:p.dst=some d) (bW:dst≠some d) :
  yielded ops (a.put dst x).tmps g=yielded ops a.tmps g:=by
 unfold yielded;simp only[hp,Option.bind_some,hd];cases dst with
 |none=>rfl
 |some t=>grind[Act.put,Array.getElem?_setIfInBounds_ne]
theorem Gx {d:Nat} {l:List Oper} (hw:writes d l=false):∀o∈l,o.dst≠some d:=by
 induction l with
 |nil=>simp
 |cons x l ih=>
  simp only[writes,Bool.or_eq_false_iff]at hw;intro o ho;rcases List.mem_cons.1 ho with rfl |ho
  ·intro e;simp_all
  grind
end Go.Ae
