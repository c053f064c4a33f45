/- The abstract executor of the program's form in Lean, shown sound: new blocks, cuts, appends, copies, conversions, ranges; every operation; calls. -/
import Derived.Test.YtolpbdncppeohaaGreatDoorTopBankAe2
import Derived.Laws.BytesString
namespace Go.Ae
open Go
variable {P:Program} {m:Mp} {D:Nat→Prop} {h h':AH} {w:World} {c:CV} {ρ:Operand→Value} {r:Operand→Option AV} {o:Oper} {v:AV}
theorem Nx (R:Rel P m D h w) {s:Sem Value} {b:cV} {ob_:Obj} {room:Nat} {z:AV} {w0:World}
  (hs:s.run P w=.ok (cv (λx=>if x=h.nx then(w.heap.size,room)else m x) z) w0)
  (fW:w0.heap=w.heap.push ob_) (Bn:w0.os=w.os) (li:w0.tape=w.tape) (iw:w0.output=w.output)
  (hb:cJ D b) (mU:dr P m b (w.heap.size,room) w0) (hz:bu (λx=>x=h.nx∨D x) z) (iO:∀t,b≠.dq t:=by intro t hh;cases hh) :
  dK P m D h w ((do pure (Next.value (← s)):Sem Next).run P w) z (h.new b):=by
 obtain⟨e,r'⟩:=R.new b ob_ room fW Bn li iw hb mU iO;exact⟨_,_,w0,.inl (by simp_all),e,r',hz⟩
theorem kU (t:TypeId) (cs:Array Value):(newRow t cs).run P w=.ok ⟨w.heap.size,0,none⟩ { w with heap:=w.heap.push (.cells cs t) }:=rfl
theorem Zf {ct:CT} {cs:List AV} {t:TypeId} (lJ:ct.toList=cs) (w0:World) (fW:w0.heap=w.heap.push (.cells (aW m cs).toArray t)):dr P m (.cells ct t false) (w.heap.size,0) w0:=by refine⟨[],(0,0),?_,λ_=>rfl,λi _=>by simp,λh=>by grind⟩;grind
theorem TI (R:Rel P m D h w) {x z:AV} {t:TypeId} (hx:bu D x) (e:kF h t x fin=some (z,h')) :
  dK P m D h w ((do pure (Next.value (← (do pure (.pointer (some (← newVar t (cv m x)))):Sem Value))):Sem Next).run P w) z h':=by
 unfold kF at e;simp only[jg,qU]at e;obtain⟨_,rfl,rfl⟩:=e;refine Nx R (w0:={ w with heap:=w.heap.push (.cells (aW m x.cells).toArray t) }) (room:=0) ?_ rfl rfl rfl rfl (by grind[cJ,CT.aL,QV]) (Zf (CT.aL _) _ rfl) (.inl rfl);simp[newVar,kJ,kU,cv]
theorem qxM {t:TypeId} (ho:o.op=.alloc t) (R:Rel P m D h w) (e:bc P c o.op r h fin=some (v,h')):dK P m D h w ((execOp ρ o).run P w) v h':=by
 rw[ho]at e;simp only[bc,qg]at e;obtain⟨z,hz,e⟩:=e;obtain⟨z1,z2⟩:=yH (w:=w) (m:=m) (D:=D) hz;have:=TI R z2 e;simp_all[execOp,Instr.alloc,pure,newVar]
theorem jKe {t:TypeId} {x:Operand} (ho:o.op=.box t x) (hr:dQ m D ρ r) (R:Rel P m D h w) (e:bc P c o.op r h fin=some (v,h')):dK P m D h w ((execOp ρ o).run P w) v h':=by rw[ho]at e;simp only[bc,qg]at e;obtain⟨a,ha,e⟩:=e;obtain⟨a1,a2⟩:=hr _ _ ha;have:=TI R a2 e;simp only[execOp,ho,a1];trivial
theorem kK {cl:Call} {b:Builtin} (ho:o.op=.call cl) (hc:cl.callee=.builtin b) :
  ∃cs,(execOp ρ o).run P w=(builtin b cl.argTypes o.type cs (cl.args.map ρ)).run P w:=by
 refine⟨cl.args.map fun | .const _=>true |_=>false,?_⟩;simp only[execOp,ho];have h1:(resolve ρ cl o.type).run P w=.ok { target:=.builtin b cl.argTypes o.type (cl.args.map fun | .const _=>true |_=>false),args:=cl.args.map ρ } w:=by unfold resolve;rw[hc];rfl
 rw[qV h1];rfl
theorem vy {α:Type} {a:Array α} {l:List α} (h:a.toList=l):a=l.toArray:=by grind
theorem jX5 {cl:Call} (ho:o.op=.call cl) (hc:cl.callee=.builtin .len) (hr:dQ m D ρ r) (R:Rel P m D h w) (e:bc P c o.op r h fin=some (v,h')):dK P m D h w ((execOp ρ o).run P w) v h':=by
 obtain⟨cs,hx⟩:=kK (P:=P) (w:=w) (ρ:=ρ) ho hc;rw[ho]at e;simp only[bc,hc]at e
 split at e
 ·rename_i x xs t ts ha ht;simp only[qg]at e;obtain⟨a,rJ,d,hd,e⟩:=e;obtain⟨a1,a2⟩:=hr _ _ rJ;rw[hx,vy ha,vy ht]
  have cP:∀z,(∀u,P.underlying t=some u→(match u,cv m a with
    | .string,.string s=>(pure (goInt s.size):Sem Value)
    | .array n _,_=>pure (goInt n)
    | .pointer arr,_=>do
     let .array n _ ← underlying arr | stuck "len: pointer to array expected"
     pure (goInt n)
    | .slice _,.slice _ n _=>pure (goInt n)
    | .map _ _,.map none | .chan _ _,.chan none=>pure (goInt 0)
    | .map _ _,.map (some r)=>do
     let .map entries _ ← getObj r | stuck "len: map expected"
     pure (goInt entries.size)
    | .chan _ _,.chan (some r)=>do
     let .chan _ buf _ _ _ timer ← getObj r | stuck "len: channel expected"
     pure (goInt (if timer then 0 else buf.size))
    | _, _ => stuck "len: string, array, pointer to array, slice, map or channel expected").run P w = .ok z w) →
    (Builtin.len_ (t::ts).toArray o.type ((x::xs).toArray.map ρ)).run P w=.ok z w:=by
   intro z hz;unfold Builtin.len_;simp only[List.getElem?_toArray,List.getElem?_cons_zero,List.map_toArray,List.map_cons,a1];rw[qV (Ae.run_underlying hd)];grind
  have fh:∀n:Nat,v=.int .i64 (.ofNat n)→h=h'→(Builtin.len_ (t::ts).toArray o.type ((x::xs).toArray.map ρ)).run P w=.ok (goInt n) w→
    dK P m D h w ((builtin .len (t::ts).toArray o.type cs ((x::xs).toArray.map ρ)).run P w) v h':=by
   rintro n rfl rfl hl;exact zg R hl trivial
  cases d<;>simp only[reduceCtorEq]at e
  case string=>
   unfold Xo at e
   split at e
   ·rename_i q;simp only[qU]at e;obtain⟨rfl,rfl⟩:=e;refine fh _ rfl rfl (cP _ λu hu=>?_);rw[hd]at hu;cases hu;rfl
   grind
  case array n el=>simp only[qU]at e;obtain⟨rfl,rfl⟩:=e;simp_all
  case slice el=>
   unfold Jx at e
   split at e
   ·simp only[qU]at e;obtain⟨rfl,rfl⟩:=e;refine fh _ rfl rfl (cP _ λu hu=>?_);rw[hd]at hu;cases hu;rfl
   ·simp only[qU]at e;obtain⟨rfl,rfl⟩:=e;refine fh 0 rfl rfl (cP _ λu hu=>?_);rw[hd]at hu;cases hu;rfl
   ·simp only[qU]at e;obtain⟨rfl,rfl⟩:=e;refine fh 0 rfl rfl (cP _ λu hu=>?_);rw[hd]at hu;cases hu;rfl
   ·simp only[qU]at e;obtain⟨rfl,rfl⟩:=e;refine fh 0 rfl rfl (cP _ λu hu=>?_);rw[hd]at hu;cases hu;rfl
   grind
  case map kt et=>
   unfold NF at e
   split at e
   ·rename_i b
    split at e
    ·rename_i l q hg;simp only[qU]at e;obtain⟨rfl,rfl⟩:=e;obtain⟨x',ix,mU,_⟩:=R.bp b a2;rw[hg]at ix;cases ix;have bI:w.heap[(m b).1]? =some (.map (l.map xk).toArray q):=mU;refine fh l.length rfl rfl (cP _ λu hu=>?_);simp_all[cv,getObj,Sem.run]
    grind
   grind
 grind
theorem jJP {mx:Bool} {a b z:AV} (e:DI mx a b=some z):((match mx with |true=>Builtin.max2 |false=>Builtin.min2) (cv m a) (cv m b)).run P w=.ok (cv m z) w∧MU z=true:=by
 unfold DI at e
 split at e
 ·rename_i k x k' y;rw[jg]at e;obtain⟨hk,e⟩:=e;have hk:k=k':=by grind
  subst hk;simp only[Option.some.injEq]at e;subst e;cases mx
  ·simp only[cond_false,MK,cv];refine⟨?_,rfl⟩;simp[Builtin.min2]
  ·simp only[cond_true,MK,cv];refine⟨?_,rfl⟩;simp[Builtin.max2]
 grind
theorem qy6 {mx:Bool} {l:List AV} {a z:AV} (ha:MU a=true) (e:Bd mx a l=some z) :
  ((aW m l).foldlM (match mx with |true=>Builtin.max2 |false=>Builtin.min2) (cv m a)).run P w=.ok (cv m z) w∧MU z=true:=by
 induction l generalizing a with
 |nil=>simp[Bd]at e;subst e;trivial
 |cons b l ih=>simp only[Bd,Option.bind_eq_some_iff]at e;obtain⟨y,hy,e⟩:=e;obtain⟨y1,y2⟩:=jJP (P:=P) (m:=m) (w:=w) hy;obtain⟨z1,z2⟩:=ih y2 e;simp_all[aW,List.foldlM_cons]
theorem TK {cl:Call} {mx:Bool} (ho:o.op=.call cl) (hc:cl.callee=.builtin (match mx with |true=>.max |false=>.min)) (hr:dQ m D ρ r) (R:Rel P m D h w) (e:bc P c o.op r h fin=some (v,h')):dK P m D h w ((execOp ρ o).run P w) v h':=by
 obtain⟨cs,hx⟩:=kK (P:=P) (w:=w) (ρ:=ρ) ho hc;rw[ho]at e;have e':(ob (kV r cl.args.toList) λl=>pf mx l λz=>fin z h)=some (v,h'):=by
  grind
 simp only[qg]at e';obtain⟨l,hl,e⟩:=e';obtain⟨l1,l2⟩:=JG hr hl;unfold pf at e
 split at e
 ·rename_i a q;simp only[jg,qg,qU]at e;obtain⟨hi,z,hz,rfl,rfl⟩:=e;obtain⟨z1,z2⟩:=qy6 (P:=P) (m:=m) (w:=w) hi hz;have hv:bu D z:=by cases z<;>simp[MU]at z2;trivial
  rw[hx];have lm:(cl.args.map ρ).toList=cv m a::aW m q:=by rw[Array.toList_map,l1];rfl
  cases mx
  ·refine zg R (s:=Builtin.min_ cl.argTypes o.type (cl.args.map ρ)) ?_ hv;grind[Builtin.min_]
  ·refine zg R (s:=Builtin.max_ cl.argTypes o.type (cl.args.map ρ)) ?_ hv;grind[Builtin.max_]
 grind
end Go.Ae
namespace Go.Ae
open Go
variable {P:Program} {m:Mp} {D:Nat→Prop} {h h':AH} {w:World} {c:CV} {ρ:Operand→Value} {r:Operand→Option AV} {o:Oper} {v:AV}
theorem Ux {x:AV} {y n:Nat} {code:BoundsCode} (e:tQ x y=some n):(Instr.sliceBound (cv m x) y code).run P w=.ok n w∧n≤y:=by
 unfold tQ at e
 split at e
 ·rename_i k q;rw[jg]at e;obtain⟨hq,e⟩:=e;have hq:=zL hq;simp_all[Option.some.injEq,Instr.sliceBound,cv,asIntOf]
 grind
theorem XS {isS:Bool} {len cap u l:Nat} {lo hi:Option AV} (hu:vm hi cap len=some u) (hl:vm lo u 0=some l) :
  (Instr.sliceBounds isS len cap (lo.map (cv m)) (hi.map (cv m)) none).run P w=.ok (l,u,cap) w∧(hi=none∨u≤cap)∧(l≤u)∧(hi=none→u=len):=by
 unfold Instr.sliceBounds;have h1:((pure cap:Sem Nat)).run P w=.ok cap w:=rfl;rw[qV h1];cases hi with
 |none=>
  simp only[vm,Option.some.injEq]at hu;subst hu;simp only[Option.map_none];rw[qV (show(pure len:Sem Nat).run P w=.ok len w from rfl)];cases lo with
  |none=>simp only[vm,Option.some.injEq]at hl;simp;omega
  |some x=>obtain⟨h2,h3⟩:=Ux (P:=P) (m:=m) (w:=w) (code:=.sliceB) hl;simp_all
 |some y=>
  simp only[Option.map_some];obtain⟨h4,h5⟩:=Ux (P:=P) (m:=m) (w:=w) (code:=if isS then .sliceAcap else .sliceAlen) hu;rw[qV h4];cases lo with
  |none=>simp only[vm,Option.some.injEq]at hl;simp;omega
  |some x=>obtain⟨h2,h3⟩:=Ux (P:=P) (m:=m) (w:=w) (code:=.sliceB) hl;simp_all
theorem TL (hr:dQ m D ρ r) {x:Option Operand} {y:Option AV} (e:G3 r x=some y):x.map ρ=y.map (cv m):=by
 cases x with
 |none=>grind[G3]
 |some x=>simp only[G3,Option.map_eq_some_iff]at e;obtain⟨a,ha,rfl⟩:=e;simp[(hr _ _ ha).1]
theorem qvc {t:TypeId} {x:Operand} {lo hi mx:Option Operand} (ho:o.op=.slice t x lo hi mx) (hr:dQ m D ρ r) (R:Rel P m D h w) (e:bc P c o.op r h fin=some (v,h')):dK P m D h w ((execOp ρ o).run P w) v h':=by
 rw[ho]at e;cases mx<;>simp only[bc,reduceCtorEq]at e
 simp only[qg]at e;obtain⟨a,ha,Ib,dB,nM,mi,d,hd,e⟩:=e;obtain⟨a1,a2⟩:=hr _ _ ha;simp only[execOp,ho,a1,TL hr dB,TL hr mi,Option.map_none];cases d<;>simp only[reduceCtorEq]at e
 case string=>
  unfold w6 at e
  split at e
  ·rename_i s;simp only[qg,qU]at e;obtain⟨u,hu,l,hl,t',ht,rfl,rfl⟩:=e;obtain⟨b1,_,b2,_⟩:=XS (P:=P) (m:=m) (w:=w) (isS:=false) hu hl;refine zg R ?_ trivial;unfold Instr.sliceAt;rw[qV (Ae.run_underlying hd)];simp only[];unfold Instr.slice;rw[qV (Ae.run_underlying hd)];simp only[cv,Option.isSome_none,Bool.false_eq_true,if_false];have hs:(ByteArray.mk s.toArray).size=s.length:=by rfl
   rw[hs];rw[qV b1];simp only[wJ]
   congr 2
   rw[QI]at ht;obtain⟨t1,t2⟩:=QW ht;subst t1;apply ByteArray.ext;simp
  grind
 case slice el=>
  simp only[qg]at e;obtain⟨sz,bF,e⟩:=e;have main:∀(A:Option Addr) (len cap u l:Nat) (z:AV),cv m a=.slice A len cap→vm nM cap len=some u→vm Ib u 0=some l→bu D z→
    cv m z=.slice (if cap=l then A else A.map (·.add (l*sz))) (u-l) (cap-l)→dK P m D h w ((do pure (Next.value (← Instr.sliceAt t (cv m a) (Ib.map (cv m)) (nM.map (cv m)) none)):Sem Next).run P w) z h:=by
   intro A len cap u l z LC hu hl hz hcz;obtain⟨b1,_,b2,_⟩:=XS (P:=P) (m:=m) (w:=w) (isS:=true) (len:=len) hu hl;refine zg R ?_ hz;unfold Instr.sliceAt;rw[qV (Ae.run_underlying hd)];simp_all[Instr.slice,Ae.run_underlying,Ae.run_sizeOf]
  unfold vW at e
  split at e
  ·rename_i b off len cap;simp only[qg,qU]at e;obtain⟨u,hu,l,hl,rfl,rfl⟩:=e;refine main _ len cap u l _ rfl hu hl a2 ?_;simp only[cv];cases fz:Nat.beq cap l
   all_goals simp_all[vo,cond_false,Option.map_some,ko]
  ·rename_i b off len i0;simp only[jg,qg]at e;obtain⟨hf,u,hu,l,hl,e⟩:=e;unfold ve at hf
   split at hf
   ·rename_i cs el' hg;simp only[Bool.and_eq_true]at hf;obtain⟨f0,f1,f2,f3⟩:=hf;have f0:=zE f0;have f1:=zL f1;have f2:=zE f2;have f3:=zL f3;subst f0;obtain⟨rest,fr,h1,h2,h3,h4,h5⟩:=R.cells a2 hg;obtain⟨h4a,h4b⟩:=h4 rfl sz bF;rw[CT.dN]at f3;have D7:i0+len≤(m b).2:=by
     have:(i0+len)*sz≤(m b).2*sz:=by grind
     exact Nat.le_of_mul_le_mul_right this f1
    have CW:vm nM ((m b).2-i0) len=some u:=by
     cases nM with
     |none=>exact hu
     |some y=>
      simp only[vm,tQ]at hu ⊢
      split at hu
      ·rename_i k q;rw[jg]at hu ⊢;simp at*;omega
      grind
    have hule:u≤len:=by
     cases nM with
     |none=>grind[vm,Option.some.injEq]
     |some y=>
      simp only[vm,tQ]at hu
      split at hu
      ·rw[jg]at hu;simp at*;omega
      grind
    cases mV:Nat.beq l 0
    ·have D8:=vo mV;rw[mV]at e;simp only[cond_false]at e;cases tx:Nat.ble (l+1) len
     ·rw[tx]at e;simp only[cond_false,qU]at e;obtain⟨rfl,rfl⟩:=e;have tx:¬l+1≤len:=λh=>by simp_all[iY]
      obtain⟨_,_,q1,_⟩:=XS (P:=P) (m:=m) (w:=w) (isS:=true) (len:=len) CW hl;refine main _ len _ u l _ rfl CW hl a2 ?_;simp only[cv];have e1:u-l=0:=by omega
      rw[e1];by_cases hc:(m b).2=i0+l
      ·simp_all
      ·rw[iQ hc,iQ omQ];simp[Option.map_some,ko];omega
     rw[tx]at e;simp only[cond_true,qU]at e;obtain⟨rfl,rfl⟩:=e;have tx:=zL tx;refine main _ len _ u l _ rfl CW hl a2 ?_;simp[cv,omQ,Option.map_some,ko];omega
    ·have D8:=zE mV;subst D8;rw[mV]at e;simp only[cond_true,qU]at e;obtain⟨rfl,rfl⟩:=e;refine main _ len _ u 0 _ rfl CW hl a2 ?_;simp[cv,Addr.add]
   grind
  ·simp only[qg,qU]at e;obtain⟨u,hu,l,hl,rfl,rfl⟩:=e;have LD:u=0:=by
    cases nM with
    |none=>grind[vm,Option.some.injEq]
    |some y=>
     simp only[vm,tQ]at hu
     split at hu
     ·rw[jg]at hu;simp at*;omega
     grind
   subst LD;have mV:l=0:=by
    cases Ib with
    |none=>grind[vm,Option.some.injEq]
    |some y=>
     simp only[vm,tQ]at hl
     split at hl
     ·rw[jg]at hl;simp at*;omega
     grind
   subst mV;refine main none 0 0 0 0 .ak rfl hu hl trivial ?_;rfl
  ·simp only[qg,qU]at e;obtain⟨u,hu,l,hl,rfl,rfl⟩:=e;have LD:u=0:=by
    cases nM with
    |none=>grind[vm,Option.some.injEq]
    |some y=>
     simp only[vm,tQ]at hu
     split at hu
     ·rw[jg]at hu;simp at*;omega
     grind
   subst LD;have mV:l=0:=by
    cases Ib with
    |none=>grind[vm,Option.some.injEq]
    |some y=>
     simp only[vm,tQ]at hl
     split at hl
     ·rw[jg]at hl;simp at*;omega
     grind
   subst mV;refine main _ 0 0 0 0 (.ch _) rfl hu hl trivial ?_;rfl
  grind
 case array n el=>
  simp only[qg]at e;obtain⟨sz,bF,e⟩:=e;unfold kB at e
  split at e
  ·rename_i b off;simp only[qg,qU]at e;obtain⟨u,hu,l,hl,rfl,rfl⟩:=e;obtain⟨b1,_,b2,_⟩:=XS (P:=P) (m:=m) (w:=w) (isS:=false) (len:=n) hu hl;refine zg R ?_ a2;unfold Instr.sliceAt;rw[qV (Ae.run_underlying hd)];simp only[cv];rw[qV (show(Instr.sureAddr (.pointer (some ⟨(m b).1,off,none⟩))).run P w=.ok ⟨(m b).1,off,none⟩ w from rfl)];rw[qV b1];simp only[];rw[qV (Ae.run_sizeOf bF)];cases fz:Nat.beq n l
   all_goals simp_all[vo,cond_false,ko,zE]
  grind
end Go.Ae
namespace Go.Ae
open Go
variable {P:Program} {m:Mp} {D:Nat→Prop} {h h':AH} {w:World} {c:CV} {ρ:Operand→Value} {r:Operand→Option AV} {o:Oper} {v:AV}
theorem qqa:∀(vs:List Value) (C:List Value) (off i:Nat),off+i+vs.length≤C.length→
  (vs.zipIdx i).foldl (λcs (p:Value×Nat)=>cs.setIfInBounds (off+p.2) p.1) C.toArray=(C.take (off+i)++vs++C.drop (off+i+vs.length)).toArray:=by
 intro vs
 induction vs with
 |nil=>simp
 |cons v vs ih=>
  intro C off i h;simp only[List.length_cons]at h;simp only[List.zipIdx_cons,List.foldl_cons];have e0:C.toArray.setIfInBounds (off+i) v=(C.set (off+i) v).toArray:=by simp
  rw[e0,ih _ off (i+1) (by grind)]
  congr 1
  have e1:(C.set (off+i) v).take (off+(i+1))=C.take (off+i)++[v]:=by grind[List.take_succ_eq_append_getElem,List.take_set_of_le]
  have e2:(C.set (off+i) v).drop (off+(i+1)+vs.length)=C.drop (off+i+(v::vs).length):=by
   rw[List.drop_set_of_lt omQ]
   grind
  grind
theorem NH (hr:dQ m D ρ r) {pl:Nat→Option (Nat×Nat)} {l:List (Nat×Operand)} {vs:List (Nat×Nat×AV)} (e:yS pl r l=some vs) :
  ∀{z cs:List AV},vj z vs=some cs→ba D z→Instr.fill pl (aW m z).toArray (l.map λp=>(p.1,ρ p.2))=some (aW m cs).toArray∧ba D cs:=by
 induction l generalizing vs with
 |nil=>intro z cs e2 hz;simp[yS]at e;subst e;simp[vj]at e2;subst e2;trivial
 |cons p l ih=>
  obtain⟨i,x⟩:=p;intro z cs e2 hz;simp only[yS,Option.bind_eq_some_iff,Option.map_eq_some_iff]at e;obtain⟨q,hq,a,ha,s,hs,rfl⟩:=e;obtain⟨a1,a2⟩:=hr _ _ ha;simp only[vj,jg,Option.bind_eq_some_iff]at e2;obtain⟨hl,z',hz',e2⟩:=e2;have hl:=zE hl;obtain⟨e3,e4⟩:=Up hz';have tz:ba D z':=by grind[gw,XZ,QV,Gq]
  obtain⟨f1,f2⟩:=ih hs e2 tz;refine⟨?_,f2⟩;simp only[List.map_cons,Instr.fill,hq];have bF:(ρ x).cells.size=q.2:=by simp_all[kJ]
  have bW:(decide ((ρ x).cells.size≠q.2)||decide (q.1+(ρ x).cells.size>(aW m z).toArray.size))=false:=by simp_all
  simp only[bW,Bool.false_eq_true,if_false];rw[← f1]
  congr 1
  rw[a1,kJ,← Array.foldl_toList];simp_all[qqa,xK]
theorem qX2 {fs:List Field} {pl:List (Nat×Nat)} (e:QE P fs=some pl):(fs.mapM λf=>(do pure (f.offset,← sizeOf f.type):Sem (Nat×Nat))).run P w=.ok pl w:=by
 induction fs generalizing pl with
 |nil=>simp_all[QE,kV]
 |cons f fs ih=>simp only[QE,kV,Option.bind_eq_some_iff,Option.map_eq_some_iff]at e;obtain⟨q,⟨n,hn,rfl⟩,t,ht,he⟩:=e;cases he;rw[List.mapM_cons];rw[qV (show(do pure (f.offset,← sizeOf f.type):Sem (Nat×Nat)).run P w=.ok (f.offset,n) w from by simp_all[Ae.run_sizeOf])];rw[qV (ih ht)];rfl
theorem qVd {fs:Array Field} {pl:List (Nat×Nat)} (e:QE P fs.toList=some pl):(fs.mapM λf=>(do pure (f.offset,← sizeOf f.type):Sem (Nat×Nat))).run P w=.ok pl.toArray w:=by rw[Array.mapM_eq_mapM_toList];show((fs.toList.mapM λf=>(do pure (f.offset,← sizeOf f.type):Sem (Nat×Nat)))>>=λl=>pure l.toArray).run P w=_;rw[qV (qX2 e)];rfl
theorem qxu {t:TypeId} {parts:Array (Nat×Operand)} (ho:o.op=.build t parts) (hr:dQ m D ρ r) (R:Rel P m D h w) (e:bc P c o.op r h fin=some (v,h')):dK P m D h w ((execOp ρ o).run P w) v h':=by
 rw[ho]at e;simp only[bc,qg]at e;obtain⟨z,hz,d,hd,e⟩:=e;obtain⟨z1,z2⟩:=yH (w:=w) (m:=m) (D:=D) hz;simp only[execOp,ho];cases d<;>simp only[reduceCtorEq]at e
 case struct fs=>
  simp only[qg]at e;obtain⟨pl,pu,vs,pw,e⟩:=e;unfold vn at e;simp only[qg,qU]at e;obtain⟨cs,lZ,rfl,rfl⟩:=e;have Ic:=qVd (w:=w) pu;have Bp:yS (pl.toArray[·]?) r parts.toList=some vs:=by
   grind[Qy,yR]
  obtain⟨f1,f2⟩:=NH hr Bp lZ (QV z2);refine zg R ?_ f2;unfold Instr.build;rw[qV z1];rw[qV (Ae.run_underlying hd)];simp only[];rw[qV Ic,kJ];have fY:(parts.map λ(p:Nat×Operand)=>(p.1,ρ p.2)).toList=parts.toList.map λp=>(p.1,ρ p.2):=by simp
  rw[fY,f1];rfl
 case array n el=>
  simp only[qg]at e;obtain⟨sz,bF,vs,pw,e⟩:=e;unfold vn at e;simp only[qg,qU]at e;obtain⟨cs,lZ,rfl,rfl⟩:=e;obtain⟨f1,f2⟩:=NH hr pw lZ (QV z2);refine zg R ?_ f2;unfold Instr.build;rw[qV z1];rw[qV (Ae.run_underlying hd)];simp only[];rw[qV (Ae.run_sizeOf bF),kJ];have fY:(parts.map λ(p:Nat×Operand)=>(p.1,ρ p.2)).toList=parts.toList.map λp=>(p.1,ρ p.2):=by simp
  rw[fY,f1];rfl
theorem YG {t:TypeId} {z:List AV} (e:UP P t=some z):∃i za,P.info? t=some i∧dZ P t=some za∧z=za.cells∧z.length=i.size∧jY z=true∧i.bytes≤65536∧aQ P t=some z.length:=by unfold UP at e;simp only[Option.bind_eq_some_iff,jg,Bool.and_eq_true,Option.some.injEq]at e;obtain⟨i,hi,za,hz,⟨h1,h2,h3⟩,rfl⟩:=e;have h1:=zE h1;exact⟨i,za,hi,hz,rfl,h1,h2,zL h3,by grind[aQ]⟩
theorem QF {α:Type} (l:List α) (n:Nat):(gC l n).length=n*l.length:=by
 induction n with
 |zero=>simp[gC]
 |succ n ih=>grind[gC,Nat.succ_mul]
theorem ZG {l:List AV} (hl:ba D l) (n:Nat):ba D (gC l n):=by
 induction n with
 |zero=>trivial
 |succ n ih=>exact gw.2 ⟨hl,ih⟩
theorem qk9 {α:Type} [Inhabited α] (l:List α) (n i:Nat) (hi:i<n*l.length):(gC l n)[i]? =some (l.toArray[i%l.toArray.size]!):=by
 induction n generalizing i with
 |zero=>grind
 |succ n ih=>
  have LH:0<l.length:=by
   grind
  simp only[gC];by_cases aw:i<l.length
  ·grind[List.getElem?_append_left,List.size_toArray,Nat.mod_eq_of_lt]
  ·rw[List.getElem?_append_right omQ,ih (i-l.length) (by grind)]
   congr 2
   simp only[List.size_toArray]
   conv=>rhs;rw[show i=(i-l.length)+l.length from by omega,Nat.add_mod_right]
theorem TM (z:List AV) (n:Nat) (m:Mp):((Array.range (n*z.length)).map λi=>(aW m z).toArray[i%(aW m z).toArray.size]!)=(aW m (gC z n)).toArray:=by
 apply Array.ext
 ·simp[QF]
 ·intro i h1 h2;have hi:i<n*z.length:=by grind
  have hg:=qk9 (aW m z) n i (by simp_all);have hr:gC (aW m z) n=aW m (gC z n):=by
   clear hg h1 h2 hi
   induction n with
   |zero=>rfl
   |succ n ih=>grind[gC,Yt]
  grind
theorem TN {α:Type} (f:Nat→α):(Array.range 0).map f= #[]:=by simp
theorem qjI {t:TypeId} {len:Nat} {parts:Array (Nat×Operand)} (ho:o.op=.buildSlice t len parts) (hr:dQ m D ρ r) (R:Rel P m D h w) (e:bc P c o.op r h fin=some (v,h')):dK P m D h w ((execOp ρ o).run P w) v h':=by
 rw[ho]at e;simp only[bc,qg]at e;obtain⟨d,hd,e⟩:=e;cases d<;>simp only[reduceCtorEq]at e
 rename_i el;simp only[qg,zW]at e;obtain⟨z,hz,hlen,vs,pw,e⟩:=e;have hlen:=zL hlen;obtain⟨i,za,hi,Bq,rfl,Aj,pt,Ie,bF⟩:=YG hz;unfold vG at e;simp only[qg,jg,qU]at e;obtain⟨cs,lZ,TO,rfl,rfl⟩:=e;obtain⟨z1,z2⟩:=yH (w:=w) (m:=m) (D:=D) Bq;obtain⟨f1,f2⟩:=NH hr pw lZ (ZG (QV z2) len);simp only[execOp,ho];refine Nx R (w0:={ w with heap:=w.heap.push (.cells (aW m cs).toArray el) }) (room:=0) ?_ rfl rfl rfl rfl (by grind[cJ,CT.aL]) (Zf (CT.aL _) _ rfl) (.inl rfl);unfold Instr.buildSlice;rw[qV (Ae.run_underlying hd)];simp only[];rw[qV (Ae.run_sizeOf bF)];have bW:¬(len*za.cells.length>2 ^ 24):=by omega
 simp only[bW,if_false];have fY:(parts.map λ(p:Nat×Operand)=>(p.1,ρ p.2)).toList=parts.toList.map λp=>(p.1,ρ p.2):=by simp
 have zs:=TM za.cells len m;have z0:(aW m za.cells).toArray.size=za.cells.length:=by simp
 have last:∀cells,Instr.fill (λi=>some (i*za.cells.length,za.cells.length)) cells (parts.map λ(x:Nat×Operand)=>(x.1,ρ x.2)).toList=some (aW m cs).toArray→
   (match Instr.fill (λi=>some (i*za.cells.length,za.cells.length)) cells (parts.map λ(x:Nat×Operand)=>(x.1,ρ x.2)).toList with
    |some cells=>(do
      let a ← newRow el cells
      pure (Value.slice (some a) len len):Sem Value)
    | _ => stuck "buildSlice: a part of the wrong size").run P w = .ok (cv (fun x => if x = h.nx then (w.heap.size, 0) else m x) (.slice h.nx 0 len len false)) { w with heap := w.heap.push (.cells (aW m cs).toArray el) } := by
  simp_all[kU,cv]
 split
 ·grind
 ·rw[qV z1,kJ];grind
theorem TP {n:Nat} (h:n≤1073741824):IntKind.i64.wrap (Int.ofNat n)=Int.ofNat n:=by simp[UQ];omega
theorem U5 (n:Nat):(askRoom n).run P w=.ok () w:=by
 simp
theorem jZt {t:TypeId} {x y:Operand} (ho:o.op=.makeSlice t x y) (hr:dQ m D ρ r) (R:Rel P m D h w) (e:bc P c o.op r h fin=some (v,h')):dK P m D h w ((execOp ρ o).run P w) v h':=by
 rw[ho]at e;simp only[bc,qg]at e;obtain⟨d,hd,e⟩:=e;cases d<;>simp only[reduceCtorEq]at e
 rename_i el;simp only[qg]at e;obtain⟨z,hz,a,ha,b,hb,e⟩:=e;obtain⟨a1,a2⟩:=hr _ _ ha;obtain⟨b1,b2⟩:=hr _ _ hb;obtain⟨i,za,hi,Bq,rfl,Aj,pt,Ie,bF⟩:=YG hz;unfold Ja at e
 split at e
 ·rename_i k1 ln k2 cp;simp only[jg,qU,Bool.and_eq_true]at e;obtain⟨⟨h1,h2⟩,rfl,rfl⟩:=e;have h1:=zL h1;have h2:=zL h2;obtain⟨z1,z2⟩:=yH (w:=w) (m:=m) (D:=D) Bq;simp only[execOp,ho,a1,b1];refine Nx R (w0:={ w with heap:=w.heap.push (.cells (aW m (gC za.cells cp)).toArray el) }) (room:=0) ?_ rfl rfl rfl rfl (by grind[cJ,CT.n6,ZG,QV]) (Zf (CT.n6 _ _) _ rfl) (.inl rfl);unfold Instr.makeSlice;rw[qV (Ae.run_underlying hd)];simp only[cv];rw[qV (show(asInt (.int k1 (.ofNat ln))).run P w=.ok (.ofNat ln) w from rfl)];rw[qV (show(asInt (.int k2 (.ofNat cp))).run P w=.ok (.ofNat cp) w from rfl)];rw[qV (Ae.run_typeInfo hi)];simp only[TP (show ln≤1073741824 by omega),TP h2];have iy:i.bytes*cp≤65536*1073741824:=Nat.mul_le_mul Ie h2;have mW:(decide (Int.ofNat cp<0)||decide ((i.bytes:Int)*Int.ofNat cp>2 ^ 48)||decide (Int.ofNat ln<0)||decide (Int.ofNat ln>Int.ofNat cp))=false:=by
   grind
  simp only[mW,Bool.false_eq_true,if_false];rw[qV (U5 _)];rw[qV (Ae.run_sizeOf bF)];simp only[show(Int.ofNat cp).toNat=cp from rfl,show(Int.ofNat ln).toNat=ln from rfl];have zs:=TM za.cells cp m
  split
  ·rename_i h0;rw[qV (show(pure #[]:Sem (Array Value)).run P w=.ok #[] w from rfl)];have:gC za.cells cp=[]:=iA (by rw[QF,h0]);simp_all[TN,kU]
  ·rw[qV z1,kJ];rw[qV (show(pure (aW m za.cells).toArray:Sem (Array Value)).run P w=.ok _ w from rfl)];simp_all[kU]
 grind
end Go.Ae
namespace Go.Ae
open Go
variable {P:Program} {m:Mp} {D:Nat→Prop} {h h':AH} {w:World} {c:CV} {ρ:Operand→Value} {r:Operand→Option AV} {o:Oper} {v:AV}
theorem Oh {x:AV} {n:Nat} (e:Ju x=some n):(Builtin.lenOf (cv m x)).run P w=.ok n w:=by
 cases x<;>simp only[Ju,reduceCtorEq,Option.some.injEq]at e<;>subst e
 ·rfl
 all_goals rfl
theorem Ya (R:Rel P m D h w) {x:AV} {sz n:Nat} {l:List AV} (hx:bu D x) (e:Qi h sz n x=some l) :
  (Builtin.firstCells sz n (cv m x)).run P w=.ok (aW m l).toArray w∧ba D l:=by
 cases x<;>simp only[Qi,reduceCtorEq]at e
 case str s=>
  simp only[Option.map_eq_some_iff]at e;obtain⟨t,ht,rfl⟩:=e;obtain⟨t1,t2⟩:=QW ht;refine⟨?_,?_⟩
  ·simp only[cv,Builtin.firstCells,wJ]
   congr 1
   subst t1;rw[ByteArray.data_extract];simp[xK,List.extract_eq_take_drop];rfl
  ·rw[x8];intro v hv;rw[List.mem_map]at hv;obtain⟨b,_,rfl⟩:=hv;trivial
 case slice b off len cp bn=>obtain⟨h1,h2,_⟩:=R.read hx e;trivial
 case ak=>simp only[Option.some.injEq]at e;subst e;trivial
 case ch a=>simp only[jg,Option.some.injEq]at e;obtain⟨e1,rfl⟩:=e;have e1:=zE e1;subst e1;refine⟨?_,trivial⟩;simp only[cv,Builtin.firstCells,Nat.zero_mul];rfl
 case tail b o o' i1=>simp only[jg,Option.some.injEq]at e;obtain⟨e1,rfl⟩:=e;have e1:=zE e1;subst e1;refine⟨?_,trivial⟩;simp only[cv,Builtin.firstCells,Nat.zero_mul];rfl
def TR (h:AH) (sz n:Nat) (x:AV) (l:List AV):Prop :=
 Qi h sz n x=some l∨∃b off len cap bn c t o,x=.slice b off len cap bn∧h.get b=some (.cells c t o)∧vN (n*sz) (gK off c.toList)=some l
theorem qg5 {h:AH} {sz n:Nat} {x:AV} {nc:CT} (e:Ny h sz n x=some nc):TR h sz n x nc.toList:=by
 cases x<;>simp only[Ny,reduceCtorEq]at e
 case slice b off len cap bn=>
  split at e
  ·rename_i c t o hg;exact .inr ⟨b,off,len,cap,bn,c,t,o,rfl,hg,CT.Bm e⟩
  ·rename_i t hg;simp only[Option.bind_eq_some_iff]at e;obtain⟨l,hl,e⟩:=e;cases e;refine .inl ?_;grind[Qi,vq,CT.aL]
  grind
 case ak=>cases e;exact .inl rfl
 case ch a=>rw[jg]at e;obtain⟨e1,e⟩:=e;cases e;refine .inl ?_;simp only[Qi,e1,cond_true];rfl
 case tail b o o' i1=>rw[jg]at e;obtain⟨e1,e⟩:=e;cases e;refine .inl ?_;simp only[Qi,e1,cond_true];rfl
 case str s=>simp only[Option.bind_eq_some_iff]at e;obtain⟨l,hl,e⟩:=e;cases e;refine .inl ?_;simp_all[Qi,Option.map_some,CT.aL]
theorem qY8 (n9:Nat):∀(rounds c:Nat),c≤2*n9+1000→Builtin.growBy n9 rounds c≤2*n9+1000:=by
 intro rounds
 induction rounds with
 |zero=>intro c h;exact h
 |succ n ih=>
  grind[Builtin.growBy]
theorem qyn {aB cap:Nat} (h:cap<aB):Builtin.nextslicecap aB cap≤2*aB+1000:=by
 unfold Builtin.nextslicecap
 split
 ·omega
 ·split
  ·omega
  ·exact qY8 aB 4 cap omQ
theorem qVI {t u:TypeId} {ts:List TypeId} {ty:TypeId} {e:TypeId} {du:TypeDesc} {i:TypeInfo} {za:AV} {s x:Value} {base:Option Addr} {dD fG n:Nat} {new:Array Value}
  (ht:P.underlying t=some (.slice e)) (hu:P.underlying u=some du) (LI:∀k,du≠.int k) (hi:P.info? e=some i) (Bq:dZ P e=some za) (hz:za.cells.length=i.size) (hb:i.bytes≤65536)
  (hs:s=.slice base dD fG) (hlen:(Builtin.lenOf x).run P w=.ok n w) (rK:∀W:World,W.heap=w.heap→(Builtin.firstCells i.size n x).run P W=.ok new W) :
  (dD+n≤fG→(Builtin.append_ (t::u::ts).toArray ty [s,x].toArray).run P w=
   (do (match(generalizing:=false) base with |some a=>storeCells (a.add (dD*i.size)) new.toList |none=>pure ());pure (.slice base (dD+n) fG):Sem Value).run P w)∧
  (¬dD+n≤fG→dD+n≤67108864→∀cI:Array Value,(∀W:World,W.heap=w.heap→(Builtin.firstCells i.size dD s).run P W=.ok cI W)→
   ∃(cap:Nat) (rest:Array Value),dD+n≤cap∧rest.size=(cap-(dD+n))*i.size∧
    (Builtin.append_ (t::u::ts).toArray ty [s,x].toArray).run P w=.ok (.slice (some ⟨w.heap.size,0,none⟩) (dD+n) cap) { w with drawn:=w.drawn+1,heap:=w.heap.push (.cells (cI++new++rest) e) }):=by
 subst hs;have bF:aQ P e=some i.size:=by grind[aQ]
 unfold Builtin.append_;simp only[List.getElem?_toArray,List.getElem?_cons_zero,List.getElem?_cons_succ];rw[qV (Ae.run_underlying ht)];simp only[];rw[qV (Ae.run_sizeOf bF)];rw[qV (Ae.run_underlying hu)];cases du<;>first |(exact absurd rfl (LI _)) |skip
 all_goals
  rw[qV (show(pure _:Sem Bool).run P w=.ok false w from rfl)];simp only[Bool.false_eq_true,if_false,Bool.not_false,if_true];rw[qV hlen];constructor
  ·intro hle;simp only[iJ hle];rw[qV (rK w rfl)];cases base<;>rfl
  ·intro LJ LK cI hold;simp only[iQ LJ];rw[qV (Ae.run_typeInfo hi)];have h1:¬(((dD+n:Nat):Int)>IntKind.i64.max∧(False∨i.bytes=0)):=by
    rintro⟨hh,_⟩;have:((dD+n:Nat):Int)>9223372036854775807:=hh;omega
   simp only[iQ h1];rw[qV (Ae.run_typeInfo hi)];have h2:¬(Builtin.nextslicecap (dD+n) fG*i.bytes>2 ^ 48):=by have a1:=qyn (show fG<dD+n by omega);have a2:Builtin.nextslicecap (dD+n) fG*i.bytes≤134219728*65536:=Nat.mul_le_mul omQ hb;omega
   simp only[iQ h2];refine⟨(Question.appendCap (dD+n) fG e).cut (w.tape w.drawn (.appendCap (dD+n) fG e)),(Builtin.zeroCells (aW (λ_=>(0,0)) za.cells).toArray ((Question.appendCap (dD+n) fG e).cut (w.tape w.drawn (.appendCap (dD+n) fG e))-(dD+n))),?_,?_,?_⟩
   ·simp only[Question.cut];omega
   ·simp[Builtin.zeroCells,hz]
   ·rw[qV (show(choose (.appendCap (dD+n) fG e)).run P w=.ok _ { w with drawn:=w.drawn+1 }from rfl)];rw[qV (Ae.run_typeInfo hi)];rw[qV (U5 _)];rw[qV (hold { w with drawn:=w.drawn+1 } rfl)];rw[qV (rK { w with drawn:=w.drawn+1 } rfl)];rw[qV (yH (m:=λ_=>(0,0)) (D:=λ_=>True) Bq).1];rw[qV (kU e _),kJ];rfl
theorem Rel.kill (r:Rel P m D h w) (b:Nat) (hb:D b):Ext m D h w m D (h.put b .dead) w∧Rel P m D (h.put b .dead) w:=by
 refine Ext.rel r ?_;have cO:∀b',b'≠b→(h.put b .dead).get b'=h.get b':=λb' hn=>AH.bw h .dead (λe=>hn e.symm);have bY:∀b',live (h.put b .dead) b'→live h b':=λb' hl=>by
  by_cases e:b'=b
  ·subst e;obtain⟨x,hx,tZ⟩:=hl;rw[AH.aV]at hx;cases hx;trivial
  grind[live]
 refine⟨⟨λ_ h=>h,λ_ _=>rfl,Nat.le_refl _,?_,Nat.le_refl _,?_,rfl,rfl,rfl,λb=>⟨.inl,λhb=>hb.elim id λhb=>by simp at*;omega⟩,?_⟩,⟨?_,?_,?_,?_⟩⟩
 ·intro c hc hn;refine⟨rfl,?_⟩;rintro⟨b',bJ,eH,he⟩;exact hn ⟨b',bJ,bY b' eH,he⟩
 ·grind
 ·grind[AH.aV]
 ·intro b' bJ;by_cases e:b'=b
  ·subst e;exact⟨.dead,AH.aV h b' _,trivial,trivial⟩
  ·obtain⟨y,hy,fw,fX⟩:=r.bp b' bJ;grind
 ·intro b1 b2 h1 h2 l1 l2 he;exact r.inj b1 b2 h1 h2 (bY b1 l1) (bY b2 l2) he
 ·intro b' bJ;exact r.lt b' bJ
 ·rintro b' t bJ hg ⟨b2,eP,nK,he⟩;by_cases e:b'=b
  ·simp_all
  ·rw[cO b' e]at hg;exact r.dq b' t bJ hg ⟨b2,eP,bY b2 nK,he⟩
theorem Rel.D9 {w0:World} (r:Rel P m D h w) (b:Nat) (x:cV) (hb:D b) (pp:live h b)
  (DU:w0.heap.size=w.heap.size) (fc:∀c,c≠(m b).1→w0.heap[c]? =w.heap[c]?) (Bn:w0.os=w.os) (li:w0.tape=w.tape) (iw:w0.output=w.output)
  (hx:cJ D x) (mS:dr P m x (m b) w0) (iO:∀t,x≠.dq t:=by intro t hh;cases hh) :
  let m':Mp:=λb'=>if b'=h.nx then m b else m b'
  let D':Nat→Prop:=λb'=>b'=h.nx∨D b'
  Ext m D h w m' D' ((h.put b .dead).new x) w0∧Rel P m' D' ((h.put b .dead).new x) w0:=by
 intro m' D';refine Ext.rel r ?_;have Ak:b≠h.nx:=by have:=r.lt b hb;omega
 have hm:∀b',D b'→m' b'=m b':=λb' bJ=>by
  have:=r.lt b' bJ;grind
 have iz:m' h.nx=m b:=by grind
 have cO:∀b',D b'→b'≠b→((h.put b .dead).new x).get b'=h.get b':=λb' bJ hn=>by
  rw[AH.bS _ x (show(h.put b .dead).nx≠b' by have:=r.lt b' bJ;simp;omega),AH.bw h .dead (λe=>hn e.symm)]
 have oI:((h.put b .dead).new x).get b=some .dead:=by rw[AH.bS _ x (show(h.put b .dead).nx≠b by simp;omega),AH.aV]
 have Ea:¬live ((h.put b .dead).new x) b:=by rintro⟨y,hy,lI⟩;rw[oI]at hy;cases hy;exact lI
 have bY:∀b',D b'→live ((h.put b .dead).new x) b'→live h b'∧b'≠b:=λb' bJ hl=>by
  grind[live]
 refine⟨⟨λb' h=>.inr h,hm,by omega,?_,Nat.le_succ _,?_,Bn,li,iw,λb'=>(show b'=h.nx∨D b'↔D b'∨(h.nx≤b'∧b'<h.nx+1)from⟨λhh=>hh.elim (λe=>.inr omQ) .inl,λhh=>hh.elim .inr λe=>.inl omQ⟩),?_⟩,⟨?_,?_,?_,?_⟩⟩
 ·intro c hc hn;have TT:c≠(m b).1:=λe=>hn ⟨b,hb,pp,e.symm⟩;refine⟨fc c TT,?_⟩;rintro⟨b',bJ,eH,he⟩;rcases bJ with rfl |bJ
  ·grind
  ·rw[hm b' bJ]at he;exact hn ⟨b',bJ,(bY b' bJ eH).1,he⟩
 ·intro b' bJ hn;have cg:b'≠b:=λe=>hn (e▸hb);refine⟨?_,?_⟩
  ·rw[AH.bS _ x (show(h.put b .dead).nx≠b' by simp;omega),AH.bw h .dead (λe=>cg e.symm)]
  grind
 ·intro b' t bJ hg;rcases bJ with rfl |bJ
  ·have pX:((h.put b .dead).new x).get h.nx=some x:=AH.bB (h.put b .dead) x;grind
  grind
 ·intro b' bJ;rcases bJ with rfl |bJ
  ·refine⟨x,AH.bB (h.put b .dead) x,?_,hx.mono λb hb=>.inr hb⟩;rw[iz];exact mS.congr hm hx rfl
  ·by_cases e:b'=b
   ·subst e;exact⟨.dead,oI,trivial,trivial⟩
   ·obtain⟨y,hy,fw,fX⟩:=r.bp b' bJ;refine⟨y,(cO b' bJ e).trans hy,?_,fX.mono λb hb=>.inr hb⟩;rw[hm b' bJ];cases y with
    |dead=>trivial
    |dq t=>exact fw.congr hm fX (fc _ λee=>r.dq b' t bJ hy ⟨b,hb,pp,ee.symm⟩)
    |_=>exact fw.congr hm fX (fc _ λee=>e (r.inj b' b bJ hb ⟨_,hy,by trivial⟩ pp ee))
 ·intro b1 b2 h1 h2 l1 l2 he;rcases h1 with rfl |h1<;>rcases h2 with rfl |h2
  ·rfl
  ·exfalso;obtain⟨q1,q2⟩:=bY b2 h2 l2;rw[iz,hm b2 h2]at he;exact q2 (r.inj b b2 hb h2 pp q1 he).symm
  ·exfalso;obtain⟨q1,q2⟩:=bY b1 h1 l1;rw[iz,hm b1 h1]at he;exact q2 (r.inj b1 b h1 hb q1 pp he)
  ·rw[hm b1 h1,hm b2 h2]at he;exact r.inj b1 b2 h1 h2 (bY b1 h1 l1).1 (bY b2 h2 l2).1 he
 ·intro b' bJ;rcases bJ with rfl |bJ
  ·simp
  ·have:=r.lt b' bJ;simp;omega
 ·rintro b1 t h1 hg ⟨b2,h2,l2,he⟩;rcases h1 with rfl |h1
  ·have pX:((h.put b .dead).new x).get h.nx=some x:=AH.bB (h.put b .dead) x;grind
  ·by_cases e:b1=b
   ·grind
   ·rw[cO b1 h1 e]at hg;rw[hm b1 h1]at he;rcases h2 with rfl |h2
    ·rw[iz]at he;exact r.dq b1 t h1 hg ⟨b,hb,pp,he⟩
    ·rw[hm b2 h2]at he;exact r.dq b1 t h1 hg ⟨b2,h2,(bY b2 h2 l2).1,he⟩
theorem Rel.heap {W:World} (R:Rel P m D h w) (hW:W.heap=w.heap):Rel P m D h W :=
 ⟨⟨λb hb=>by
  obtain⟨x,hx,hr,hd⟩:=R.bp b hb
  exact⟨x,hx,hr.congr (λ_ _=>rfl) hd (by rw[hW]),hd⟩,R.inj,R.lt,R.dq⟩,λp hp=>by
  obtain⟨g,h1,h2,h3⟩:=R.gl p hp
  exact⟨g,h1,(Gp h1 h2).2 (by rw[hW]),h3⟩⟩
theorem LL {ct:CT} {cs:List AV} (lJ:ct.toList=cs) {t:TypeId} {w0:World} {cap n:Nat} {rest:Array Value} (bF:aQ P t=some n) (hc:cs.length≤cap*n) (hr:rest.size=cap*n-cs.length)
  (fW:w0.heap=w.heap.push (.cells ((aW m cs).toArray++rest) t)):dr P m (.cells ct t true) (w.heap.size,cap) w0:=by
 subst lJ;refine⟨rest.toList,(0,0),?_,(λhh=>by grind),(λi _=>by simp),λ_ k hk=>?_⟩
 all_goals simp_all
theorem MD (R:Rel P m D h w) {x:AV} {sz n:Nat} {l:List AV} (hx:bu D x) (e:TR h sz n x l):(Builtin.firstCells sz n (cv m x)).run P w=.ok (aW m l).toArray w∧ba D l:=by
 rcases e with e |⟨b,off,len,cap,bn,c,t,o,rfl,hg,e⟩
 ·grind[Ya]
 ·obtain⟨h1,h2,_⟩:=R.rF hx hg e;trivial
theorem qjd {cl:Call} (ho:o.op=.call cl) (hc:cl.callee=.builtin .append) (hr:dQ m D ρ r) (R:Rel P m D h w) (e:bc P c o.op r h fin=some (v,h')):dK P m D h w ((execOp ρ o).run P w) v h':=by
 obtain⟨cs,hx⟩:=kK (P:=P) (w:=w) (ρ:=ρ) ho hc;rw[ho]at e;simp only[bc,hc]at e
 split at e
 ·rename_i s x t u ts ha dw;simp only[qg]at e;obtain⟨du,LI,e⟩:=e;have iO:(∀k,du≠.int k)∧∃el z vs vx,P.underlying t=some (.slice el)∧UP P el=some z∧r s=some vs∧r x=some vx∧wY h el z.length vs vx fin=some (v,h'):=by
   split at e
   ·grind
   ·rename_i hn;simp only[qg]at e;grind
  obtain⟨iO,el,z,vs,vx,ht,hz,pw,ua,e⟩:=iO;obtain⟨s1,s2⟩:=hr _ _ pw;obtain⟨x1,x2⟩:=hr _ _ ua;obtain⟨i,za,hi,Bq,rfl,Aj,pt,Ie,bF⟩:=YG hz;rw[Aj]at bF e;unfold wY at e;simp only[qg,jg]at e;obtain⟨n,hn,nc,hnc,rL,e⟩:=e;have rL:=zE rL;rw[CT.dN]at rL;have iz:=qg5 hnc;obtain⟨new,bW⟩:∃new,nc.toList=new:=⟨_,rfl⟩;rw[bW]at rL iz;have hnd:ba D new:=(MD R x2 iz).2;rw[hx,vy ha,vy dw];simp only[List.map_toArray,List.map_cons,List.map_nil,s1,x1];have iM:=λ(base:Option Addr) (dD fG:Nat) (hb:cv m vs=.slice base dD fG)=>qVI (w:=w) (ty:=o.type) (ts:=ts) ht LI iO hi Bq Aj Ie hb (Oh hn) (λW hW=>(MD (R.heap hW) x2 iz).1)
  have done:∀{z:Value} {w0:World},(Builtin.append_ (t::u::ts).toArray o.type [cv m vs,cv m vx].toArray).run P w=.ok z w0→
    (builtin .append (t::u::ts).toArray o.type cs [cv m vs,cv m vx].toArray).run P w=.ok (.value z) w0:=by
   intro z w0 hh;show(do pure (Next.value (← Builtin.append_ (t::u::ts).toArray o.type [cv m vs,cv m vx].toArray)):Sem Next).run P w=_;simp_all
  have store:∀(b off len lp:Nat) (bn:Bool) (rm:Nat) (h1:AH),vs=.slice b off len rm bn→cv m vs=.slice (some ⟨(m b).1,off,none⟩) len lp→len+n≤lp→wW h b (off+len*i.size) new=some h1→
    dK P m D h w ((builtin .append (t::u::ts).toArray o.type cs [cv m vs,cv m vx].toArray).run P w) (.slice b off (len+n) rm bn) h1:=by
   intro b off len lp bn rm h1 Bp mj hle hw;obtain⟨a1,_⟩:=iM _ _ _ mj;subst Bp;obtain⟨w',cP,rH,fg⟩:=R.write s2 hnd hw;refine⟨m,D,w',.inl (done ?_),rH,fg,s2⟩;rw[a1 hle];simp only[];rw[ko,qV cP];simp only[cv,Value.slice.injEq]at mj ⊢;simp;omega
  have Al:∀(b off len lp:Nat),cv m vs=.slice (some ⟨(m b).1,off,none⟩) len lp→n=0→len≤lp→
    dK P m D h w ((builtin .append (t::u::ts).toArray o.type cs [cv m vs,cv m vx].toArray).run P w) vs h:=by
   intro b off len lp mj l5 hle;obtain⟨a1,_⟩:=iM _ _ _ mj;subst l5;have:new=[]:=iA omQ;subst this;refine⟨m,D,w,.inl (done ?_),Ext.refl ..,R,s2⟩;rw[a1 omQ,mj];rfl
  have grow:∀(b off len lp:Nat) (cI:List AV),cv m vs=.slice (some ⟨(m b).1,off,none⟩) len lp→D b→¬len+n≤lp→len+n≤67108864→(vq h b off (len*i.size)=some cI∨∃c t o,h.get b=some (.cells c t o)∧vN (len*i.size) (gK off c.toList)=some cI)→
    ∃cap rest w0,(Builtin.append_ (t::u::ts).toArray o.type [cv m vs,cv m vx].toArray).run P w=.ok (.slice (some ⟨w.heap.size,0,none⟩) (len+n) cap) w0∧
     w0.heap=w.heap.push (.cells ((aW m (cI++new)).toArray++rest) el)∧w0.os=w.os∧w0.tape=w.tape∧w0.output=w.output∧(cI++new).length≤cap*i.size∧rest.size=cap*i.size-(cI++new).length∧ba D (cI++new):=by
   intro b off len lp cI mj hb hle rM hold;obtain⟨_,a2⟩:=iM _ _ _ mj;have rd:∀{W:World},Rel P m D h W→(loadCells ⟨(m b).1,off,none⟩ (len*i.size)).run P W=.ok (aW m cI).toArray W∧ba D cI∧cI.length=len*i.size:=by
    intro W RW;rcases hold with hold |⟨c,t,o,hg,hold⟩
    ·exact RW.read hb hold
    ·exact RW.rF hb hg hold
   obtain⟨o1,o2,o3⟩:=rd R;obtain⟨cap,rest,c1,c2,c3⟩:=a2 hle rM (aW m cI).toArray (λW hW=>by rw[mj];exact(rd (R.heap hW)).1);have hl:(cI++new).length=(len+n)*i.size:=by grind
   refine⟨cap,rest,_,c3,?_,rfl,rfl,rfl,?_,?_,gw.2 ⟨o2,hnd⟩⟩
   ·simp[Yt]
   ·rw[hl];exact Nat.mul_le_mul_right _ c1
   grind[Nat.sub_mul]
  unfold vi at e;simp only[bW]at e
  split at e
  ·--nil
   obtain⟨a1,a2⟩:=iM none 0 0 rfl;cases l5:Nat.beq n 0
   ·have oa:=vo l5;rw[l5]at e;simp only[cond_false,jg,qU]at e;obtain⟨rM,rfl,rfl⟩:=e;have rM:=zL rM;obtain⟨cap,rest,c1,c2,c3⟩:=a2 omQ omQ #[] (λW hW=>by rfl);have mX:rest.size=cap*i.size-new.length:=by rw[c2,rL,Nat.zero_add,Nat.sub_mul]
    have Eb:new.length≤cap*i.size:=by rw[rL];exact Nat.mul_le_mul_right _ omQ
    obtain⟨ex,re⟩:=R.new (.cells nc el true) _ cap (w0:={ w with drawn:=w.drawn+1,heap:=w.heap.push (.cells (#[]++(aW m new).toArray++rest) el) }) rfl rfl rfl rfl (by grind[cJ])
     (LL bW bF Eb mX aS)
    refine⟨_,_,_,.inl (done ?_),ex,re,.inl rfl⟩;grind[cv]
   ·have oa:=zE l5;subst oa;rw[l5]at e;simp only[cond_true,qU]at e;obtain⟨rfl,rfl⟩:=e;refine⟨m,D,w,.inl (done ?_),Ext.refl ..,R,trivial⟩;rw[a1 omQ];rfl
  ·rename_i b off len cap;cases hle:Nat.ble (len+n) cap
   ·have Ec:=KJ hle;rw[hle]at e;simp only[cond_false,jg,qg]at e;obtain⟨rM,cI,hold,e⟩:=e;have rM:=zL rM;simp only[qU]at e;obtain⟨rfl,rfl⟩:=e;obtain⟨c',rest,w0,g1,g2,g3,g4,g5,g6,g7,g8⟩:=grow b off len cap cI rfl s2 omQ rM (.inl hold);have rN:(bif Nat.beq len 0 then nc else CT.ofList (cI++new)).toList=cI++new:=by
     cases mV:Nat.beq len 0
     ·simp[CT.aL]
     ·have h0:=zE mV;have ho:cI=[]:=iA (by have:=(R.read s2 hold).2.2;grind);grind
    obtain⟨ex,re⟩:=R.new (.cells (bif Nat.beq len 0 then nc else CT.ofList (cI++new)) el true) _ c' g2 g3 g4 g5 (by grind[cJ]) (LL rN bF g6 g7 g2);refine⟨_,_,_,.inl (done ?_),ex,re,.inl rfl⟩;grind[cv]
   ·have Ec:=zL hle;rw[hle]at e;simp only[cond_true]at e;cases l5:Nat.beq n 0
    ·rw[l5]at e;simp only[cond_false,qg,qU]at e;obtain⟨h1,hw,rfl,rfl⟩:=e;exact store b off len cap false cap h1 rfl rfl Ec hw
    ·have oa:=zE l5;rw[l5]at e;simp only[cond_true,qU]at e;obtain⟨rfl,rfl⟩:=e;exact Al b off len cap rfl oa omQ
  ·rename_i b off len i0
   split at e
   ·rename_i cells e' hg;simp only[jg,Bool.and_eq_true]at e;obtain⟨⟨f1,f2,f3,f4⟩,e⟩:=e;have f1:=zL f1;have f2:=zE f2;have f3:=zE f3;have f4:=zL f4;rw[CT.dN]at f4;subst f3;obtain⟨rest,fr,k1,k2,k3,k4,k5⟩:=R.cells s2 hg;obtain⟨k4a,k4b⟩:=k4 rfl _ bF;have D7:i0+len≤(m b).2:=by
     have:(i0+len)*i.size≤(m b).2*i.size:=by grind
     exact Nat.le_of_mul_le_mul_right this f1
    cases l5:Nat.beq n 0
    ·have oa:=vo l5;rw[l5]at e;simp only[cond_false]at e;cases eI:Nat.ble (off+(len+n)*i.size) cells.len
     ·have Bs:=KJ eI;rw[CT.dN]at Bs;rw[eI]at e;simp only[cond_false,jg,qg,Bool.and_eq_true,qU]at e;obtain⟨⟨g0,gs,oJ⟩,rO,Ed,rfl,rfl⟩:=e;have hold:=CT.n7 Ed;obtain⟨cI,TU⟩:∃cI,rO.toList=cI:=⟨_,rfl⟩;rw[TU]at hold;have iB:(rO.iM new).toList=cI++new:=by rw[CT.rD,TU]
      have g0:=zE g0;have gs:=zL gs;subst g0;simp only[Nat.zero_mul]at f2;subst f2;by_cases hle:len+n≤(m b).2
      ·--it grows where it lies
       have hlr:(len+n)*i.size≤(m b).2*i.size:=Nat.mul_le_mul_right _ hle;have hln:(len+n)*i.size=len*i.size+n*i.size:=Nat.add_mul ..;obtain⟨w',q1,q2⟩:=YY (P:=P) (0+len*i.size) (aW m new) 0 w _ k1 (by simp;omega) (TF m oJ) (by simpa using k3);obtain⟨a1,_⟩:=iM _ _ _ rfl;have oK:cI=cells.toList.take (len*i.size)∧len*i.size≤cells.toList.length:=QW hold;obtain⟨o1,o2⟩:=oK;have fV:cI.length=len*i.size:=by rw[o1,List.length_take];omega
       have ix:cJ D (.cells (rO.iM new) el true):=by simp only[cJ,iB];rw[o1];exact gw.2 ⟨XZ _ k5,hnd⟩
       obtain⟨ex,re⟩:=R.D9 b (.cells (rO.iM new) el true) s2 (Vw hg trivial) q2.size q2.other q2.os q2.tape q2.output ix (by
        simp only[dr,iB];refine⟨(aW m cells.toList++rest).drop ((len+n)*i.size),fr,?_,(λhh=>by grind),?_,λ_ k hk=>?_⟩
        ·rw[q2.at_]
         congr 2
         have e1:(aW m cells.toList++rest).take (0+len*i.size+0)=aW m cI:=by rw[o1,xK,xK,List.take_append_of_le_length (by grind)];simp
         grind[aW,eG,Yt]
        ·intro j hj;apply k3 j;simp only[List.length_append,List.length_drop,eG,fV,rL]at hj;omega
        ·rw[bF]at hk;cases hk;simp;omega)
       refine⟨_,_,w',.inl (done ?_),ex,re,.inl rfl⟩;rw[a1 (by grind)];simp only[];rw[ko,qV q1];simp[cv]
      ·obtain⟨c',TV,w0,g1,g2,g3,g4,g5,g6,g7,g8⟩:=grow b 0 len ((m b).2-0) cI rfl s2 omQ gs (.inr ⟨_,_,_,hg,hold⟩);obtain⟨ex1,re1⟩:=R.kill b s2;obtain⟨ex,re⟩:=re1.new (.cells (rO.iM new) _ true) _ c' g2 g3 g4 g5 (by grind[cJ]) (LL iB bF g6 g7 g2);refine⟨_,_,_,.inl (done ?_),ex1.trans ex,re,.inl rfl⟩;rw[g1];simp[cv]
     ·have Bs:=zL eI;rw[CT.dN]at Bs;rw[eI]at e;simp only[cond_true,qg,qU]at e;obtain⟨h1,hw,rfl,rfl⟩:=e;refine store b off len ((m b).2-i0) true i0 h1 rfl rfl ?_ hw;have:(i0+(len+n))*i.size≤(m b).2*i.size:=by grind
      have:=Nat.le_of_mul_le_mul_right this f1;omega
    ·have oa:=zE l5;rw[l5]at e;simp only[cond_true,qU]at e;obtain⟨rfl,rfl⟩:=e;exact Al b off len ((m b).2-i0) rfl oa omQ
   grind
  grind
 grind
end Go.Ae
namespace Go.Ae
open Go
variable {P:Program} {m:Mp} {D:Nat→Prop} {h h':AH} {w:World} {c:CV} {ρ:Operand→Value} {r:Operand→Option AV} {o:Oper} {v:AV}
theorem qyi {cl:Call} (ho:o.op=.call cl) (hc:cl.callee=.builtin .copy) (hr:dQ m D ρ r) (R:Rel P m D h w) (e:bc P c o.op r h fin=some (v,h')):dK P m D h w ((execOp ρ o).run P w) v h':=by
 obtain⟨cs,hx⟩:=kK (P:=P) (w:=w) (ρ:=ρ) ho hc;rw[ho]at e;simp only[bc,hc]at e
 split at e
 ·rename_i s x t ts ha dw;simp only[qg]at e;obtain⟨d,hd,e⟩:=e;cases d<;>simp only[reduceCtorEq]at e
  rename_i el;simp only[qg]at e;obtain⟨sz,bF,vs,pw,vx,ua,e⟩:=e;obtain⟨s1,s2⟩:=hr _ _ pw;obtain⟨x1,x2⟩:=hr _ _ ua;unfold Mr at e;simp only[qg]at e;obtain⟨n,hn,k,hk,l,hl,e⟩:=e;obtain⟨l1,l2⟩:=Ya R x2 hl;rw[hx,vy ha,vy dw];simp only[List.map_toArray,List.map_cons,List.map_nil,s1,x1];have done:∀{z:Value} {w0:World},(Builtin.copy_ (t::ts).toArray o.type [cv m vs,cv m vx].toArray).run P w=.ok z w0→
    (builtin .copy (t::ts).toArray o.type cs [cv m vs,cv m vx].toArray).run P w=.ok (.value z) w0:=by
   intro z w0 hh;show(do pure (Next.value (← Builtin.copy_ (t::ts).toArray o.type [cv m vs,cv m vx].toArray)):Sem Next).run P w=_;simp_all
  have body:∀base Ee,cv m vs=.slice base k Ee→(Builtin.copy_ (t::ts).toArray o.type [cv m vs,cv m vx].toArray).run P w=
    (do (match(generalizing:=false) base with |some a=>storeCells a (aW m l) |none=>pure ());pure (goInt (Nat.min n k)):Sem Value).run P w:=by
   intro base Ee hb;unfold Builtin.copy_;simp only[List.getElem?_toArray,List.getElem?_cons_zero,List.getElem?_cons_succ];rw[qV (Ae.run_underlying hd)];simp only[hb];rw[qV (Oh hn)];rw[qV (Ae.run_sizeOf bF)];grind[qV]
  split at e
  ·rename_i b off len cp bn;simp only[Ju,Option.some.injEq]at hk;subst hk;cases h0:Nat.beq (Nat.min n len) 0
   ·rw[h0]at e;simp only[cond_false,qg,qU]at e;obtain⟨h1,hw,rfl,rfl⟩:=e;obtain⟨w',cP,rH,fg⟩:=R.write s2 l2 hw;refine⟨m,D,w',.inl (done ?_),rH,fg,trivial⟩;rw[body _ _ rfl];simp only[];rw[qV cP];rfl
   ·have TW:=zE h0;rw[h0]at e;simp only[cond_true,qU]at e;obtain⟨rfl,rfl⟩:=e;refine⟨m,D,w,.inl (done ?_),Ext.refl ..,R,trivial⟩;rw[body _ _ rfl];have mV:l=[]:=by
     rw[TW]at hl;cases vx<;>simp only[Qi,reduceCtorEq]at hl
     ·grind[Lv]
     ·have:=(R.read x2 hl).2.2;grind
     all_goals grind
    subst mV;simp only[aW,TW];rfl
  ·simp only[qU]at e;obtain⟨rfl,rfl⟩:=e;simp only[Ju,Option.some.injEq]at hk;subst hk;refine⟨m,D,w,.inl (done ?_),Ext.refl ..,R,trivial⟩;rw[body none 0 rfl];simp only[];show Result.ok (goInt ((Nat.min n 0:Nat):Int)) w=_;rw[show Nat.min n 0=0 from Nat.min_zero n];rfl
  grind
 grind
theorem qKa {l:List AV} {s:List UInt8} (e:Qz l=some s):∃ns:List Int,aW m l=ns.map (Value.int .u8)∧∀acc:ByteArray,ns.foldl (λr n=>r.push (UInt8.ofNat n.toNat)) acc=⟨acc.data++s.toArray⟩:=by
 induction l generalizing s with
 |nil=>simp[Qz]at e;subst e;exact⟨[],rfl,λacc=>by simp⟩
 |cons a l ih=>
  unfold Qz at e
  split at e
  ·grind
  ·rename_i n r oe;cases oe;simp only[Option.bind_eq_some_iff]at e;obtain⟨t,ht,e⟩:=e;cases e;obtain⟨ns,h1,h2⟩:=ih ht;refine⟨.ofNat n::ns,by grind[aW,cv],λacc=>?_⟩;simp_all
  grind
theorem jVA {ct:CT} {cs:List AV} (lJ:ct.toList=cs) {t:TypeId} {w0:World} {cap n:Nat} {rest:Array Value} (bF:aQ P t=some n) (hc:cs.length≤cap*n) (hr:rest.size=cap*n-cs.length)
  (fW:w0.heap=w.heap.push (.cells ((aW m cs).toArray++rest) t (cs.length+rest.size,cs.length+rest.size+1))):dr P m (.cells ct t true) (w.heap.size,cap) w0:=by
 subst lJ;have Br:rest.toList.length=rest.size:=Array.length_toList;refine⟨rest.toList,(ct.toList.length+rest.size,ct.toList.length+rest.size+1),?_,(λhh=>by grind),(λi hi=>by grind),λ_ k hk=>?_⟩
 all_goals simp_all
theorem jZT {s d:TypeId} {x:Operand} (ho:o.op=.convert s d x) (hr:dQ m D ρ r) (R:Rel P m D h w) (e:bc P c o.op r h fin=some (v,h')):dK P m D h w ((execOp ρ o).run P w) v h':=by
 rw[ho]at e;simp only[bc,qg]at e;obtain⟨a,ha,ds,CX,dd,Ef,e⟩:=e;obtain⟨a1,a2⟩:=hr _ _ ha;simp only[execOp,ho,a1];cases dd<;>simp only[reduceCtorEq]at e
 case int k=>
  cases ds<;>simp only[reduceCtorEq]at e
  unfold wA at e
  split at e
  ·simp only[qU]at e;obtain⟨rfl,rfl⟩:=e;refine zg R ?_ trivial;unfold convert;rw[qV (Ae.run_underlying CX),qV (Ae.run_underlying Ef)];simp only[cv,QC];rfl
  grind
 case string=>
  cases ds<;>simp only[reduceCtorEq]at e
  case string=>
   unfold Gr at e
   split at e
   ·simp only[qU]at e;obtain⟨rfl,rfl⟩:=e;refine zg R ?_ trivial;simp_all[convert,Ae.run_underlying,cv]
   grind
  case slice el=>
   simp only[qg]at e;obtain⟨de,Am,e⟩:=e;have LM:de=.int .u8∧GC h a (λz=>fin z h)=some (v,h'):=by
    grind
   obtain⟨rfl,e2⟩:=LM;unfold GC at e2
   split at e2
   ·simp only[qU]at e2;obtain⟨rfl,rfl⟩:=e2;refine zg R ?_ trivial;unfold convert;rw[qV (Ae.run_underlying CX),qV (Ae.run_underlying Ef)];simp only[cv];rw[qV (Ae.run_underlying Am)];rfl
   ·rename_i b off len cp bn;simp only[qg,qU]at e2;obtain⟨cs,lZ,q,hq,rfl,rfl⟩:=e2;obtain⟨r1,r2,r3⟩:=R.read a2 lZ;obtain⟨ns,n1,n2⟩:=qKa (m:=m) hq;refine zg R ?_ trivial;obtain⟨cc,fH⟩:∃cc,cv m (.slice b off len cp bn)=.slice (some ⟨(m b).1,off,none⟩) len cc:=⟨_,rfl⟩;rw[fH];rw[run_convert_bytes_string w s d el _ _ _ CX Am Ef];rw[run_bytesToString w _ len _ ns (by grind),n2];simp[cv]
   grind
 case slice el=>
  cases ds<;>simp only[reduceCtorEq]at e
  simp only[qg]at e;obtain⟨de,Am,e⟩:=e;have LM:de=.int .u8∧∃sz,aQ P el=some sz∧Nat.beq sz 1=true∧Nh h el a fin=some (v,h'):=by
   grind
  obtain⟨rfl,sz,bF,rP,e2⟩:=LM;have rP:=zE rP;subst rP;unfold Nh at e2
  split at e2
  ·rename_i s';simp only[jg,qU]at e2;obtain⟨rM,rfl,rfl⟩:=e2;have rM:=zL rM;have CY:(ByteArray.mk s'.toArray).size=s'.length:=by rfl
   have lZ:aW m (s'.map λ(c:UInt8)=>AV.int .u8 (.ofNat c.toNat))=s'.map λb=>Value.int .u8 b.toNat:=by rw[xK,List.map_map];rfl
   have hq:∃cap,s'.length≤cap∧(choose (.appendCap (ByteArray.mk s'.toArray).size 0 el)).run P w=.ok cap { w with drawn:=w.drawn+1 }:=by refine⟨(Question.appendCap (ByteArray.mk s'.toArray).size 0 el).cut (w.tape w.drawn (.appendCap (ByteArray.mk s'.toArray).size 0 el)),?_,rfl⟩;grind[Question.cut]
   obtain⟨cap,pz,hch⟩:=hq;have hlen:(s'.map λ(c:UInt8)=>AV.int .u8 (.ofNat c.toNat)).length=s'.length:=by simp
   generalize hC:((aW m (s'.map λ(c:UInt8)=>AV.int .u8 (.ofNat c.toNat))).toArray++Array.replicate (cap-s'.length) (Value.int .u8 0))=C;have hCs:C.size=cap:=by grind
   obtain⟨ex,re⟩:=R.new (.cells (CT.ofList (s'.map λ(c:UInt8)=>AV.int .u8 (.ofNat c.toNat))) el true) (.cells C el (C.size,C.size+1)) cap
    (w0:={ w with drawn:=w.drawn+1,heap:=w.heap.push (.cells C el (C.size,C.size+1)) }) rfl rfl rfl rfl
    (by simp only[cJ,CT.aL];rw[x8];intro x hx;rw[List.mem_map]at hx;obtain⟨y,_,rfl⟩:=hx;trivial)
    (jVA (CT.aL _) (rest:=Array.replicate (cap-s'.length) (Value.int .u8 0)) bF (by grind) aS (by
     grind))
   refine⟨_,_,_,.inl ?_,ex,re,.inl rfl⟩;have conv:(convert s d (cv m (.str s'))).run P w=(Conv.stringToBytes el ⟨s'.toArray⟩).run P w:=by simp_all[convert,Ae.run_underlying,cv]
   have s2b:(Conv.stringToBytes el ⟨s'.toArray⟩).run P w=.ok (.slice (some ⟨w.heap.size,0,none⟩) s'.length cap) { w with drawn:=w.drawn+1,heap:=w.heap.push (.cells C el (C.size,C.size+1)) }:=by
    unfold Conv.stringToBytes;rw[qV hch];have iC:((ByteArray.mk s'.toArray).data.map λb=>Value.int .u8 b.toNat)++Array.replicate (cap-(ByteArray.mk s'.toArray).size) (Value.int .u8 0)=C:=by grind
    simp only[iC];rw[qV (kU el C)];have Eg:(markStringish ⟨w.heap.size,0,none⟩).run P { w with drawn:=w.drawn+1,heap:=w.heap.push (.cells C el) }=.ok () { w with drawn:=w.drawn+1,heap:=w.heap.push (.cells C el (C.size,C.size+1)) }:=by
     unfold markStringish;have D5:(shape w.heap.size).run P { w with drawn:=w.drawn+1,heap:=w.heap.push (.cells C el) }=.ok (some (el,C.size)) { w with drawn:=w.drawn+1,heap:=w.heap.push (.cells C el) }:=by simp[World.shape?]
     rw[qV D5];show Result.ok () (World.freeze _ _ _)=_;simp only[World.freeze]
     congr 1
     simp only[Nat.one_ne_zero,if_false]
     congr 1
     grind
    simp_all
   simp_all[cv]
  grind
theorem qwM {t:TypeId} {x:Operand} (ho:o.op=.range t x) (hr:dQ m D ρ r) (R:Rel P m D h w) (e:bc P c o.op r h fin=some (v,h')):dK P m D h w ((execOp ρ o).run P w) v h':=by
 rw[ho]at e;simp only[bc,qg]at e;obtain⟨d,hd,e⟩:=e;cases d<;>simp only[reduceCtorEq]at e
 simp only[qg]at e;obtain⟨a,ha,e⟩:=e;obtain⟨a1,a2⟩:=hr _ _ ha;simp only[execOp,ho,a1];unfold Kk at e
 split at e
 ·rename_i s;simp only[qU]at e;obtain⟨rfl,rfl⟩:=e;refine Nx R (b:=.iter s 0) (ob_:=.stringIter ⟨s.toArray⟩ 0) (room:=0) (w0:={ w with heap:=w.heap.push (.stringIter ⟨s.toArray⟩ 0) }) ?_ rfl rfl rfl rfl trivial ?_ (.inl rfl)
  ·simp_all[Instr.range,Ae.run_underlying,cv,pure]
  ·show(w.heap.push _)[w.heap.size]? =_;simp
 grind
theorem jJT {t:Operand} {b:Bool} (ho:o.op=.next t b) (hr:dQ m D ρ r) (R:Rel P m D h w) (e:bc P c o.op r h fin=some (v,h')):dK P m D h w ((execOp ρ o).run P w) v h':=by
 rw[ho]at e;simp only[bc,zW,qg]at e;obtain⟨rfl,a,ha,e⟩:=e;obtain⟨a1,a2⟩:=hr _ _ ha;simp only[execOp,ho,a1];unfold MY at e
 split at e
 ·rename_i q
  split at e
  ·rename_i s pos hg;obtain⟨x,hx,mU,_⟩:=R.bp q a2;rw[hg]at hx;cases hx;have bI:w.heap[(m q).1]? =some (.stringIter ⟨s.toArray⟩ pos):=mU;have cO:(getObj (m q).1).run P w=.ok (.stringIter ⟨s.toArray⟩ pos) w:=by
    grind[getObj,Sem.run]
   have CY:(ByteArray.mk s.toArray).size=s.length:=by rfl
   cases hp:Nat.ble (pos+1) s.length
   ·have nN:=KJ hp;rw[hp]at e;simp only[cond_false,qU]at e;obtain⟨rfl,rfl⟩:=e;refine zg R ?_ ⟨trivial,trivial⟩;unfold Instr.next;simp only[cv];rw[qV cO];simp only[];rw[iQ (by grind)];rfl
   ·have nN:=zL hp;rw[hp]at e;simp only[cond_true,qU]at e;obtain⟨rfl,rfl⟩:=e;have aw:(m q).1<w.heap.size:=(Array.getElem?_eq_some_iff.1 bI).1;have lO:(setObj (m q).1 (.stringIter ⟨s.toArray⟩ (pos+(Utf8.decode ⟨s.toArray⟩ pos).2))).run P w=.ok () { w with heap:=w.heap.setIfInBounds (m q).1 (.stringIter ⟨s.toArray⟩ (pos+(Utf8.decode ⟨s.toArray⟩ pos).2)) }:=by
     grind[setObj,Sem.run]
    obtain⟨ex,re⟩:=R.put q (.iter s (pos+(Utf8.decode ⟨s.toArray⟩ pos).2)) (w0:={ w with heap:=w.heap.setIfInBounds (m q).1 (.stringIter ⟨s.toArray⟩ (pos+(Utf8.decode ⟨s.toArray⟩ pos).2)) }) a2 (Vw hg trivial) aS
     (λc hc=>by grind) rfl rfl rfl trivial (by
      show(w.heap.setIfInBounds _ _)[(m q).1]? =_
      grind)
    refine⟨m,D,_,.inl ?_,ex,re,⟨trivial,trivial,trivial,trivial⟩⟩;have:(Instr.next (cv m (.ptr q 0)) true o.type).run P w=.ok (cv m (.bV [.bool true,.int .i64 (.ofNat pos),.int .i32 (Utf8.decode ⟨s.toArray⟩ pos).1])) { w with heap:=w.heap.setIfInBounds (m q).1 (.stringIter ⟨s.toArray⟩ (pos+(Utf8.decode ⟨s.toArray⟩ pos).2)) }:=by unfold Instr.next;simp only[cv];rw[qV cO];simp only[];rw[iJ (by grind)];rw[qV lO];rfl
    simp_all
  grind
 grind
end Go.Ae
namespace Go.Ae
open Go
variable {P:Program} {m:Mp} {D:Nat→Prop} {h h':AH} {w:World} {c:CV} {ρ:Operand→Value} {r:Operand→Option AV} {o:Oper} {v:AV}
theorem Y3 {t:TypeId} (e:Bf P t=true):∃kt et,P.underlying t=some (.map kt et)∧P.underlying kt=some (.int .i64)∧dZ P et=some (.int .i64 (.ofNat 0)):=by
 grind[Bf]
theorem Qc {b:Bool} {kt:TypeId} {x:Int} (hk:P.underlying kt=some (.int .i64)):(Instr.checkKey b 10000 kt (.int .i64 x)).run P w=.ok () w:=by show(Instr.checkKey b (9999+1) kt (.int .i64 x)).run P w=_;unfold Instr.checkKey;simp_all[Ae.run_underlying]
theorem LN (a b:Int):mG a b=(a==b):=by rw[← Ly];exact(by
 cases a with
 |ofNat a=>cases b with
  |ofNat b=>
   show Nat.beq a b=(Int.ofNat a==Int.ofNat b);by_cases h:a=b
   all_goals grind[Nat.beq_refl,yi]
  |negSucc b=>rfl
 |negSucc a=>cases b with
  |ofNat b=>rfl
  |negSucc b=>
   show Nat.beq a b=(Int.negSucc a==Int.negSucc b);by_cases h:a=b
   all_goals grind[Nat.beq_refl,yi])
theorem jXm {x:Int}:∀(l:List (Int×Int×Nat)) (i:Nat),Instr.findNow (.int .i64) (.int .i64 x) (l.map xk) i=some ((QT x l i).map λe=>(e.1,Value.int .i64 e.2.1)):=by
 intro l
 induction l with
 |nil=>intro i;rfl
 |cons e l ih=>
  intro i
  show(match Instr.sameNow (.int .i64) (.int .i64 x) (xk e).key with
   |some true=>some (some (i,(xk e).val))
   |some false=>Instr.findNow (.int .i64) (.int .i64 x) (l.map xk) (i+1)
   |none=>none)=_
  have hs:Instr.sameNow (.int .i64) (.int .i64 x) (xk e).key=some (x==e.1):=by rfl
  rw[hs];unfold QT;rw[LN];cases hb:(x==e.1)
  ·grind
  rfl
theorem Jp {kt:TypeId} {x:Int} {l:List (Int×Int×Nat)} (hk:P.underlying kt=some (.int .i64)):(Instr.findKey kt (.int .i64 x) (l.map xk).toArray.toList).run P w=.ok ((QT x l 0).map λe=>(e.1,Value.int .i64 e.2.1)) w:=by simp_all[Instr.findKey,Ae.run_underlying,jXm]
theorem JK {b:Nat} {l:List (Int×Int×Nat)} {q:Nat} (hh:w.heap[b]? =some (.map (l.map xk).toArray q)):(getObj b).run P w=.ok (.map (l.map xk).toArray q) w:=by grind[getObj,Sem.run]
theorem wz {b:Nat} {es:Array MapEntry} {q:Nat} {o2:Obj} (hh:w.heap[b]? =some (.map es q)):(setObj b o2).run P w=.ok () { w with heap:=w.heap.setIfInBounds b o2 }:=by grind[setObj,Sem.run]
theorem Nk {x:Int}:∀{l:List (Int×Int×Nat)} {i:Nat} {e:Nat×Int×Nat},QT x l i=some e→i≤e.1∧l[e.1-i]? =some (x,e.2):=by
 intro l
 induction l with
 |nil=>nofun
 |cons a l ih=>
  intro i e h;unfold QT at h;rw[LN]at h;grind
theorem Yn (R:Rel P m D h w) {b:Nat} {l l2:List (Int×Int×Nat)} {q q2:Nat} (hd:D b) (hg:h.get b=some (.mp l q)) :
  ∃w0,w0={ w with heap:=w.heap.setIfInBounds (m b).1 (.map (l2.map xk).toArray q2) }∧Ext m D h w m D (h.put b (.mp l2 q2)) w0∧Rel P m D (h.put b (.mp l2 q2)) w0:=by
 obtain⟨x,hx,mU,_⟩:=R.bp b hd;rw[hg]at hx;cases hx;have bI:w.heap[(m b).1]? =some (.map (l.map xk).toArray q):=mU;have aw:(m b).1<w.heap.size:=(Array.getElem?_eq_some_iff.1 bI).1
 refine⟨_,rfl,R.put b (.mp l2 q2) (w0:={ w with heap:=w.heap.setIfInBounds (m b).1 (.map (l2.map xk).toArray q2) }) hd (Vw hg trivial) aS
  (λc hc=>by grind) rfl rfl rfl trivial (by
   show(w.heap.setIfInBounds _ _)[(m b).1]? =_
   grind)⟩
theorem qV5 {t:TypeId} {hint:Option Operand} (ho:o.op=.makeMap t hint) (R:Rel P m D h w) (e:bc P c o.op r h fin=some (v,h')):dK P m D h w ((execOp ρ o).run P w) v h':=by
 rw[ho]at e;simp only[bc]at e;cases hint with
 |some x=>grind
 |none=>
  simp only[zW]at e;obtain⟨_,e⟩:=e;unfold XQ at e;simp only[qU]at e;obtain⟨rfl,rfl⟩:=e;simp only[execOp,ho];refine Nx R (b:=.mp [] 0) (ob_:=.map #[] 0) (room:=0) (w0:={ w with heap:=w.heap.push (.map #[] 0) }) ?_ rfl rfl rfl rfl trivial ?_ (.inl rfl)
  ·simp[Instr.makeMap,cv]
  ·show(w.heap.push _)[w.heap.size]? =_;simp
theorem qkt {t:TypeId} {x i:Operand} {ok:Bool} (ho:o.op=.lookup t x i ok) (hr:dQ m D ρ r) (R:Rel P m D h w) (e:bc P c o.op r h fin=some (v,h')):dK P m D h w ((execOp ρ o).run P w) v h':=by
 rw[ho]at e;simp only[bc,zW,Bool.and_eq_true,Bool.not_eq_true',qg]at e;obtain⟨⟨hm,rfl⟩,a,ha,j,hj,e⟩:=e;obtain⟨kt,et,h1,h2,h3⟩:=Y3 hm;obtain⟨a1,a2⟩:=hr _ _ ha;obtain⟨j1,j2⟩:=hr _ _ hj;simp only[execOp,ho,a1,j1];unfold KZ at e
 split at e
 rotate_left
 ·grind
 rename_i b y
 split at e
 rotate_left
 ·grind
 rename_i l q hg;obtain⟨x',ix,mU,_⟩:=R.bp b a2;rw[hg]at ix;cases ix;have bI:w.heap[(m b).1]? =some (.map (l.map xk).toArray q):=mU;have key:∀z:Int,(match QT y l 0 with |some e=>e.2.1 |none=>0)=z→(Instr.lookup t (cv m (.dp b)) (cv m (.int .i64 y)) false).run P w=.ok (.int .i64 z) w:=by
  intro z hz;unfold Instr.lookup;rw[qV (Ae.run_underlying h1)];simp only[cv];rw[qV (JK bI)];simp only[];rw[qV (show(pure (l.map xk).toArray:Sem (Array MapEntry)).run P w=.ok (l.map xk).toArray w from rfl)];rw[qV (Qc h2),qV (Jp h2)];cases hf:QT y l 0 with
  |some e=>simp_all
  |none=>rw[hf]at hz;simp only[Option.map_none];have LO:=(yH (w:=w) (m:=m) (D:=D) h3).1;rw[qV LO];rw[← hz];rfl
 split at e
 ·rename_i e1 hf;simp only[qU]at e;obtain⟨rfl,rfl⟩:=e;exact zg R (key e1.2.1 (by rw[hf])) trivial
 ·rename_i hf;simp only[qU]at e;obtain⟨rfl,rfl⟩:=e;exact zg R (key 0 (by rw[hf])) trivial
theorem qXU {es:Array MapEntry} {i:Nat} {f:MapEntry→MapEntry} (h:∀e,es[i]? =some e→f e=e):es.modify i f=es:=by
 grind
theorem jJc {t:TypeId} {x i:Operand} (ho:o.op=.mapEntry t x i) (hr:dQ m D ρ r) (R:Rel P m D h w) (e:bc P c o.op r h fin=some (v,h')):dK P m D h w ((execOp ρ o).run P w) v h':=by
 rw[ho]at e;simp only[bc,zW,qg]at e;obtain⟨hm,a,ha,j,hj,e⟩:=e;obtain⟨kt,et,h1,h2,h3⟩:=Y3 hm;obtain⟨a1,a2⟩:=hr _ _ ha;obtain⟨j1,j2⟩:=hr _ _ hj;simp only[execOp,ho,a1,j1];unfold Vi at e
 split at e
 rotate_left
 ·grind
 rename_i b y
 split at e
 rotate_left
 ·grind
 rename_i l q hg;obtain⟨x',ix,mU,_⟩:=R.bp b a2;rw[hg]at ix;cases ix;have bI:w.heap[(m b).1]? =some (.map (l.map xk).toArray q):=mU
 have start:∀{z:Value} {w0:World},((do
   match(QT y l 0).map λe=>(e.1,Value.int .i64 e.2.1)with
   |some (i,v)=>
    let key ← Instr.keyThatStays ((((l.map xk).toArray[i]?).map (·.key)).getD (.int .i64 y)) (.int .i64 y)
    setObj (m b).1 (.map ((l.map xk).toArray.modify i λe=>{ e with key }) q)
    pure (.tuple #[v,goInt ((((l.map xk).toArray[i]?).map (·.born)).getD 0)])
   |none=>
    let zero ← zeroValue et
    setObj (m b).1 (.map ((l.map xk).toArray.push { key:=.int .i64 y,val:=zero,born:=q }) (q+1))
    pure (.tuple #[zero,goInt q]):Sem Value).run P w=.ok z w0)→(Instr.mapEntry t (cv m (.dp b)) (cv m (.int .i64 y))).run P w=.ok z w0:=by
  intro z w0 hz;unfold Instr.mapEntry;rw[qV (Ae.run_underlying h1)];simp only[cv];rw[qV (JK bI)];simp only[];rw[qV (Qc h2),qV (Jp h2)];grind
 split at e
 ·rename_i e1 hf;simp only[qU]at e;obtain⟨rfl,rfl⟩:=e;obtain⟨_,dw⟩:=Nk hf;rw[Nat.sub_zero]at dw;have og:(l.map xk).toArray[e1.1]? =some (xk (y,e1.2)):=by
   grind
  refine zg R (start ?_) ⟨trivial,trivial,trivial⟩;rw[hf];simp only[Option.map_some,og,Option.getD_some];have hk:(Instr.keyThatStays (xk (y,e1.2)).key (.int .i64 y)).run P w=.ok (.int .i64 y) w:=by
   simp[Instr.keyThatStays,Instr.sameBits,xk]
  rw[qV hk];rw[qXU (λe he=>by rw[og]at he;cases he;rfl)];rw[qV (wz bI)];have rQ:w.heap.setIfInBounds (m b).1 (.map (l.map xk).toArray q)=w.heap:=by
   grind
  rw[rQ];rfl
 ·rename_i hf;simp only[qU]at e;obtain⟨rfl,rfl⟩:=e;obtain⟨w0,fW,X,R2⟩:=Yn R (l2:=l++[(y,Int.ofNat 0,q)]) (q2:=q+1) a2 hg;refine⟨m,D,w0,.inl ?_,X,R2,⟨trivial,trivial,trivial⟩⟩;have LO:=(yH (w:=w) (m:=m) (D:=D) h3).1
  have:=start (z:=.tuple #[.int .i64 0,goInt q]) (w0:=w0) (by
   rw[hf];simp only[Option.map_none];rw[qV LO,qV (wz bI)];simp_all[xk,cv])
  rw[qV this];rfl
theorem qkT {x:Int}:∀{l:List (Int×Int×Nat)} {i j:Nat},Hx x l i=some j→i≤j∧(l.map xk).findIdx? (λe=>(e.born:Int)==x)=some (j-i):=by
 intro l
 induction l with
 |nil=>nofun
 |cons a l ih=>
  intro i j h;unfold Hx at h;rw[LN]at h;rw[List.map_cons,List.findIdx?_cons];have oL:((xk a).born:Int)=Int.ofNat a.2.2:=rfl;rw[oL];cases hb:(Int.ofNat a.2.2==x)
  ·grind
  simp_all
theorem qkO {y:Int}:∀{l:List (Int×Int×Nat)} {i:Nat},(yA y l i).map xk=(l.map xk).modify i λe=>{ e with val:=.int .i64 y }:=by
 intro l
 induction l with
 |nil=>intro i;cases i<;>rfl
 |cons a l ih=>
  intro i;cases i with
  |zero=>rfl
  |succ i=>grind[xk,yA]
theorem jXp {t:TypeId} {x s y:Operand} (ho:o.op=.entryStore t x s y) (hr:dQ m D ρ r) (R:Rel P m D h w) (e:bc P c o.op r h fin=some (v,h')):dK P m D h w ((execOp ρ o).run P w) v h':=by
 rw[ho]at e;simp only[bc,qg]at e;obtain⟨a,ha,j,hj,u,hu,e⟩:=e;obtain⟨a1,a2⟩:=hr _ _ ha;obtain⟨j1,j2⟩:=hr _ _ hj;obtain⟨u1,u2⟩:=hr _ _ hu;simp only[execOp,ho,a1,j1,u1];unfold Be at e
 split at e
 rotate_left
 ·grind
 rename_i b x0 z
 split at e
 rotate_left
 ·grind
 rename_i l q hg;obtain⟨x',ix,mU,_⟩:=R.bp b a2;rw[hg]at ix;cases ix;have bI:w.heap[(m b).1]? =some (.map (l.map xk).toArray q):=mU
 split at e
 rotate_left
 ·grind
 rename_i i hf;simp only[qU]at e;obtain⟨rfl,rfl⟩:=e;obtain⟨_,TX⟩:=qkT hf;rw[Nat.sub_zero]at TX;obtain⟨w0,fW,X,R2⟩:=Yn R (l2:=yA z l i) (q2:=q) a2 hg;refine⟨m,D,w0,.inr ⟨?_,rfl⟩,X,R2,trivial⟩;have:(Instr.entryStore t (cv m (.dp b)) (cv m (.int .i64 x0)) (cv m (.int .i64 z))).run P w=.ok () w0:=by
  unfold Instr.entryStore;simp only[cv];rw[qV (JK bI)];simp only[];rw[qV (show(asInt (.int .i64 x0)).run P w=.ok x0 w from rfl)];have hfa:(l.map xk).toArray.findIdx? (λe=>(e.born:Int)==x0)=some i:=by grind
  rw[hfa];simp only[];have e2:(l.map xk).toArray.modify i (λe=>{ e with val:=.int .i64 z })=((yA z l i).map xk).toArray:=by rw[qkO,List.modify_toArray]
  grind[wz]
 simp_all
theorem qj8 {x y:Int}:∀{l:List (Int×Int×Nat)} {i:Nat},(∀e,l[i]? =some e→e.1=x)→(yA y l i).map xk=(l.map xk).modify i λe=>{ e with key:=.int .i64 x,val:=.int .i64 y }:=by
 intro l
 induction l with
 |nil=>intro i _;cases i<;>rfl
 |cons a l ih=>
  intro i hx;cases i with
  |zero=>have:=hx a rfl;subst this;rfl
  |succ i=>grind[xk,yA]
theorem jJp {t:TypeId} {x s y:Operand} (ho:o.op=.mapUpdate t x s y) (hr:dQ m D ρ r) (R:Rel P m D h w) (e:bc P c o.op r h fin=some (v,h')):dK P m D h w ((execOp ρ o).run P w) v h':=by
 rw[ho]at e;simp only[bc,zW,qg]at e;obtain⟨hm,a,ha,j,hj,u,hu,e⟩:=e;obtain⟨kt,et,h1,h2,h3⟩:=Y3 hm;obtain⟨a1,a2⟩:=hr _ _ ha;obtain⟨j1,j2⟩:=hr _ _ hj;obtain⟨u1,u2⟩:=hr _ _ hu;simp only[execOp,ho,a1,j1,u1];unfold Ma at e
 split at e
 rotate_left
 ·grind
 rename_i b x0 z
 split at e
 rotate_left
 ·grind
 rename_i l q hg;obtain⟨x',ix,mU,_⟩:=R.bp b a2;rw[hg]at ix;cases ix;have bI:w.heap[(m b).1]? =some (.map (l.map xk).toArray q):=mU
 have start:∀{w0:World},((do
   match(QT x0 l 0).map λe=>(e.1,Value.int .i64 e.2.1)with
   |some (i,_)=>do
    let key ← Instr.keyThatStays ((((l.map xk).toArray[i]?).map (·.key)).getD (.int .i64 x0)) (.int .i64 x0)
    setObj (m b).1 (.map ((l.map xk).toArray.modify i λe=>{ e with key,val:=.int .i64 z }) q)
   |none=>setObj (m b).1 (.map ((l.map xk).toArray.push { key:=.int .i64 x0,val:=.int .i64 z,born:=q }) (q+1)):Sem Unit).run P w=.ok () w0)→(Instr.mapUpdate t (cv m (.dp b)) (cv m (.int .i64 x0)) (cv m (.int .i64 z))).run P w=.ok () w0:=by
  intro w0 hz;unfold Instr.mapUpdate;rw[qV (Ae.run_underlying h1)];simp only[cv];rw[qV (JK bI)];simp only[];rw[qV (Qc h2),qV (Jp h2)];grind
 split at e
 ·rename_i e1 hf;simp only[qU]at e;obtain⟨rfl,rfl⟩:=e;obtain⟨_,dw⟩:=Nk hf;rw[Nat.sub_zero]at dw;have og:(l.map xk).toArray[e1.1]? =some (xk (x0,e1.2)):=by
   grind
  obtain⟨w0,fW,X,R2⟩:=Yn R (l2:=yA z l e1.1) (q2:=q) a2 hg;refine⟨m,D,w0,.inr ⟨?_,rfl⟩,X,R2,trivial⟩
  have:=start (w0:=w0) (by
   rw[hf];simp only[Option.map_some,og,Option.getD_some];have hk:(Instr.keyThatStays (xk (x0,e1.2)).key (.int .i64 x0)).run P w=.ok (.int .i64 x0) w:=by
    simp[Instr.keyThatStays,Instr.sameBits,xk]
   rw[qV hk];have e2:(l.map xk).toArray.modify e1.1 (λe=>{ e with key:=.int .i64 x0,val:=.int .i64 z })=((yA z l e1.1).map xk).toArray:=by simp_all[qj8,List.modify_toArray]
   grind[wz])
  simp_all
 ·rename_i hf;simp only[qU]at e;obtain⟨rfl,rfl⟩:=e;obtain⟨w0,fW,X,R2⟩:=Yn R (l2:=l++[(x0,z,q)]) (q2:=q+1) a2 hg;refine⟨m,D,w0,.inr ⟨?_,rfl⟩,X,R2,trivial⟩
  have:=start (w0:=w0) (by
   rw[hf];simp only[Option.map_none];grind[xk,wz])
  simp_all
theorem qjU {α β:Type} {f:α→β}:∀{l:List α} {i:Nat},(l.eraseIdx i).map f=(l.map f).eraseIdx i:=by
 intro l
 induction l with
 |nil=>simp
 |cons a l ih=>
  intro i;cases i with
  |zero=>rfl
  |succ i=>grind
theorem jJU {cl:Call} (ho:o.op=.call cl) (hc:cl.callee=.builtin .delete) (hr:dQ m D ρ r) (R:Rel P m D h w) (e:bc P c o.op r h fin=some (v,h')):dK P m D h w ((execOp ρ o).run P w) v h':=by
  obtain⟨cs,hx⟩:=kK (P:=P) (w:=w) (ρ:=ρ) ho hc;rw[ho]at e;simp only[bc,hc]at e
  split at e
  rotate_left
  · grind
  rename_i s x t ts ha dw;simp only[zW,qg]at e;obtain⟨hm,a,hs,j,hj,e⟩:=e;obtain⟨kt,et,h1,h2,h3⟩:=Y3 hm;obtain⟨a1,a2⟩:=hr _ _ hs;obtain⟨j1,j2⟩:=hr _ _ hj;rw[hx,vy ha,vy dw];simp only[List.map_toArray,List.map_cons,List.map_nil,a1,j1];unfold ND at e
  split at e
  rotate_left
  · grind
  rename_i b y
  split at e
  rotate_left
  · grind
  rename_i l q hg;obtain⟨x',ix,mU,_⟩:=R.bp b a2;rw[hg]at ix;cases ix;have bI:w.heap[(m b).1]? =some (.map (l.map xk).toArray q):=mU
  have bx : ∀ {l2 : List (Int × Int × Nat)} {w0 : World}, w0 = { w with heap := w.heap.setIfInBounds (m b).1 (.map (l2.map xk).toArray q) } → ((do
        match(QT y l 0).map λe=>(e.1,Value.int .i64 e.2.1)with
        |some (i,_)=>setObj (m b).1 (.map ((l.map xk).toArray.eraseIdxIfInBounds i) q)
        |none=>setObj (m b).1 (.map (l.map xk).toArray q):Sem Unit).run P w=.ok () w0)→
      (builtin .delete (t::ts).toArray o.type cs #[cv m (.dp b),cv m (.int .i64 y)]).run P w=.ok (.value (.tuple #[])) w0:=by
    intro l2 w0 _ hz;show(do pure (Next.value (← Builtin.delete_ (t::ts).toArray o.type #[cv m (.dp b),cv m (.int .i64 y)])):Sem Next).run P w=_;have:(Builtin.delete_ (t::ts).toArray o.type #[cv m (.dp b),cv m (.int .i64 y)]).run P w=.ok (.tuple #[]) w0:=by
      unfold Builtin.delete_;simp only[List.getElem?_toArray,List.getElem?_cons_zero];rw[show([cv m (.dp b),cv m (.int .i64 y)]:List Value)[1]? =some (cv m (.int .i64 y))from rfl];simp only[];rw[qV (Ae.run_underlying h1)];simp only[cv];rw[qV (JK bI)];simp only[];rw[qV (Qc h2),qV (Jp h2)];split<;>simp_all
    simp_all
  split at e
  · rename_i e1 hf;simp only[qU]at e;obtain⟨rfl,rfl⟩:=e;obtain⟨_,og⟩:=Nk hf;rw[Nat.sub_zero]at og;have aw:e1.1<l.length:=(List.getElem?_eq_some_iff.1 og).1;obtain⟨w0,fW,X,R2⟩:=Yn R (l2:=l.eraseIdx e1.1) (q2:=q) a2 hg;refine⟨m,D,w0,.inl (bx fW ?_),X,R2,trivial⟩;rw[hf];simp only[Option.map_some];have e2:(l.map xk).toArray.eraseIdxIfInBounds e1.1=((l.eraseIdx e1.1).map xk).toArray:=by
      grind
    grind[wz]
  · rename_i hf;simp only[qU]at e;obtain⟨rfl,rfl⟩:=e;obtain⟨w0,fW,X,R2⟩:=Yn R (l2:=l) (q2:=q) a2 hg;refine⟨m,D,w0,.inl (bx fW ?_),X,R2,trivial⟩;rw[hf];simp only[Option.map_none];grind[wz]
end Go.Ae
namespace Go.Ae
open Go
variable {P:Program} {m:Mp} {D:Nat→Prop} {h h':AH} {w:World} {c:CV} {ρ:Operand→Value} {r:Operand→Option AV} {o:Oper} {v:AV}
theorem TY (Eh:∀cl f,o.op=.call cl→cl.callee≠.value f) (iO:∀cl x n,o.op=.call cl→cl.callee≠.invoke x n) (hr:dQ m D ρ r) (R:Rel P m D h w) (e:cM P c o.op r h=some (v,h')):dK P m D h w ((execOp ρ o).run P w) v h':=by
 have e:bc P c o.op r h fin=some (v,h'):=e;cases ho:o.op with
 |move x=>exact jQ6 ho hr R e
 |assign x=>exact qqs ho hr R e
 |pick x y z=>exact qym ho hr R e
 |alloc t=>exact qxM ho R e
 |box t x=>exact jKe ho hr R e
 |build t p=>exact qxu ho hr R e
 |buildSlice t n p=>exact qjI ho hr R e
 |load t x=>exact jQu ho hr R e
 |store t x y=>exact qkH ho hr R e
 |nilCheck x=>exact jVN ho hr R e
 |binOp op t x y u=>exact jX2 ho hr R e
 |unOp op t x=>exact DZ ho hr R e
 |convert s d x=>exact jZT ho hr R e
 |makeInterface t x=>exact qvU ho hr R e
 |makeFunc f x y=>exact qZC ho hr R e
 |makeSlice t x y=>exact jZt ho hr R e
 |slice t x lo hi mx=>exact qvc ho hr R e
 |fieldAddr t x f=>exact qkI ho hr R e
 |field t x f=>exact qyU ho hr R e
 |indexAddr t x i=>exact qQL ho hr R e
 |index t x i=>exact qkb ho hr R e
 |typeAssert x xt t ok=>exact qj7 ho hr R e
 |extract x i=>exact qKh ho hr R e
 |range t x=>exact qwM ho hr R e
 |next x b=>exact jJT ho hr R e
 |makeMap t x=>exact qV5 ho R e
 |lookup t x y b=>exact qkt ho hr R e
 |mapEntry t x y=>exact jJc ho hr R e
 |mapUpdate t x y z=>exact jJp ho hr R e
 |entryStore t x y z=>exact jXp ho hr R e
 |call cl=>
  cases hc:cl.callee with
  |value f=>simp_all
  |invoke a b=>simp_all
  |builtin b=>
   cases b with
   |len=>exact jX5 ho hc hr R e
   |min=>exact TK (mx:=false) ho hc hr R e
   |max=>exact TK (mx:=true) ho hc hr R e
   |append=>exact qjd ho hc hr R e
   |copy=>exact qyi ho hc hr R e
   |delete=>exact jJU ho hc hr R e
   |_=>rw[ho]at e;simp only[bc,hc,reduceCtorEq]at e
 |_=>rw[ho]at e;simp only[bc,reduceCtorEq]at e
end Go.Ae
namespace Go.Ae
open Go
variable {P:Program} {m:Mp} {D:Nat→Prop} {h h':AH} {w:World} {c:CV} {o:Oper} {v:AV}
def FW (rd:Option Nat):Fence:={ Fence.wide with round:=rd }
def JQ (P:Program) (m:Mp) (D:Nat→Prop) (h:AH) (w:World) (r:AV×AH):Ending→World→Prop :=
 λe w'=>∃m' D',e=.returned (cv m' r.1)∧Ext m D h w m' D' r.2 w'∧Rel P m' D' r.2 w'∧bu D' r.1
def Ig (P:Program) (m:Mp) (D:Nat→Prop) (h:AH) (w:World) (args:List AV) (r:AV×AH):AV→Prop
 | .fn f first cap=>(∀as W,(callFunc f as).run P W=.ok (.enter f as) W)∧∀n,CallsIn Fence.wide n P f (aW m (first++args++cap)).toArray w (JQ P m D h w r)
 | .yield l=>∃f' tmps assign body,(Instr.yield (m l).1 (aW m args).toArray).run P w=.ok (.round (m l).1 f' tmps assign body) w∧∀n,RoundIn Fence.wide n P (m l).1 f' tmps assign body w (JQ P m D h w r)
 |_=>False
def y9 (P:Program) (c:CV):Prop :=
 ∀vf args h r,c vf args h=some r→∀m D w,Rel P m D h w→bu D vf→ba D args→Ig P m D h w args r vf
theorem TZ (m:Mp):cv m .undef=undef:=rfl
theorem qxd {l:List (Nat×Nat)} {t f:Nat} (e:U8 l t=some f):(t,f)∈l:=by
 induction l with
 |nil=>cases e
 |cons p l ih=>
  have e':Bool.rec (motive:=λ_=>Option Nat) (U8 l t) (some p.2) (Nat.beq p.1 t)=some f:=e;cases hb:Nat.beq p.1 t
  ·simp_all
  ·rw[hb]at e';have:=zE hb;grind
theorem qg0 {name:String} {t f:Nat}:∀{L:List Nat},(t,f)∈DJ P name L→Z5 P name t=some f:=by
 intro L
 induction L with
 |nil=>nofun
 |cons a L ih=>
  intro h;unfold DJ at h
  grind
theorem qVm {name:String} {t f:Nat} (e:Z5 P name t=some f) (n:Nat) (x:Value) (w:World):(method (n+1) t x name).run P w=.ok (f,x) w:=by
 simp only[Z5,Option.bind_eq_some_iff]at e;obtain⟨i,hi,mm,hm,e⟩:=e;rw[jg]at e;obtain⟨hp,e⟩:=e;simp only[Option.bind_eq_some_iff]at e;obtain⟨g,hg,e⟩:=e;obtain⟨gf,gb⟩:=g;rw[jg]at e;obtain⟨hb,e⟩:=e;simp only at hb;subst hb;simp only[Option.bind_eq_some_iff]at e;obtain⟨d,hd,e⟩:=e
 split at e
 ·rename_i el;cases e;have LQ:mm.path= #[]:=by grind
  have hf:i.methods.find? (·.name==name)=some mm:=by grind
  unfold method;rw [qV (run_typeInfo hi)];simp only [hf, LQ, hg];rw [qV (show (follow (#[] : Array FieldStep).toList t (.val x)).run P w = .ok (t, .val x) w from rfl)];simp only [];have hr : (receiverAt t (.val x) true (if (#[] : Array FieldStep).isEmpty = true then some ((name.splitOn ".").getLastD name) else none)).run P w = .ok x w := by unfold receiverAt;rw [qV (run_underlying hd)];rfl
  simp_all
 grind
theorem Ei (hc:y9 P c) {rd:Option Nat} {n:Nat} {a:Act} {r:Operand→Option AV} (hr:dQ m D a.eval r) (R:Rel P m D h w) (e:cM P c o.op r h=some (v,h'))
  {next:Act→World→Prop} {Q:Exit→Act→World→Prop}
  (hn:∀m' D' w',Ext m D h w m' D' h' w'→Rel P m' D' h' w'→bu D' v→next (a.put o.dst (cv m' v)) w'):o.wpIn (FW rd) n P a w next Q:=by
 have hnd:∀cl,o.op≠.defer cl:=by intro cl fz;simp_all
 refine⟨λ_ _=>trivial,?_⟩;rw[Oper.semAt_eq _ _ _ hnd];by_cases hv:∃cl f,o.op=.call cl∧cl.callee=.value f
 ·obtain⟨cl,f,ho,lP⟩:=hv;unfold cM at e;rw[ho]at e;simp only[bc,lP,qg]at e;obtain⟨vf,An,va,rR,e⟩:=e;obtain⟨f1,f2⟩:=hr _ _ An;obtain⟨v1,v2⟩:=JG hr rR;rw[JD]at e
  split at e
  ·rename_i q hq;simp only[qU]at e;obtain⟨rfl,rfl⟩:=e;have dI:=hc vf va h q hq m D w R f2 v2;have lm:cl.args.map a.eval=(aW m va).toArray:=by grind
   cases vf<;>simp only[Ig]at dI
   case fn f' first cap=>
    obtain⟨k1,k2⟩:=dI;have cP:(execOp a.eval o).run P w=.ok (.enter f' (aW m (first++va++cap)).toArray) w:=by
     simp only[execOp,ho];have h1:(resolve a.eval cl o.type).run P w=.ok { target:=.fn (.func f') (aW m cap).toArray,args:=(aW m first).toArray++(aW m va).toArray } w:=by unfold resolve;rw[lP];simp only[f1,cv,lm];rfl
     grind[qV,invoke,aW,callFunc,Yt]
    rw[cP];refine⟨(λhh=>by cases hh),?_⟩;refine CallsIn.mono (show CallsIn (FW rd) (n-1) P f' _ w _ from k2 (n-1)) ?_;rintro ee w' ⟨m',D',rfl,ex,re,hd⟩;grind
   case yield l=>
    obtain⟨f',tmps,assign,body,k1,k2⟩:=dI;have cP:(execOp a.eval o).run P w=.ok (.round (m l).1 f' tmps assign body) w:=by
     simp only[execOp,ho];have h1:(resolve a.eval cl o.type).run P w=.ok { target:=.fn (.yield (m l).1) #[],args:=(aW m va).toArray } w:=by simp_all[resolve,cv,Deferred.ofValue]
     rw[qV h1];exact k1
    rw[cP];refine⟨(λhh=>by cases hh),?_⟩;refine RoundIn.mono (show RoundIn (FW rd) (n-1) P _ _ _ _ _ w _ from k2 (n-1)) ?_;rintro ee w' ⟨m',D',rfl,ex,re,hd⟩;grind
  grind
 ·have Eh:∀cl f,o.op=.call cl→cl.callee≠.value f:=λcl f h1 h2=>hv ⟨cl,f,h1,h2⟩;by_cases hi:∃cl x name,o.op=.call cl∧cl.callee=.invoke x name
  ·obtain⟨cl,x,name,ho,lP⟩:=hi;unfold cM at e;rw[ho]at e;simp only[bc,lP,qg]at e;obtain⟨vx,ua,va,rR,e⟩:=e;obtain⟨f1,f2⟩:=hr _ _ ua;obtain⟨v1,v2⟩:=JG hr rR;unfold vB at e
   split at e
   ·rename_i t y;cases hf:U8 (Ll P name) t with
    |none=>simp_all
    |some f=>
     rw[hf]at e;simp only[JD]at e
     split at e
     ·rename_i q hq;simp only[qU]at e;obtain⟨rfl,rfl⟩:=e;have dI:=hc (.fn f [] []) (y::va) h q hq m D w R ⟨trivial,trivial⟩ ⟨f2,v2⟩;obtain⟨k1,k2⟩:=dI;have lm:cl.args.map a.eval=(aW m va).toArray:=by grind
      have cP:(execOp a.eval o).run P w=.ok (.enter f (aW m (y::va)).toArray) w:=by
       simp only[execOp,ho];have h1:(resolve a.eval cl o.type).run P w=.ok { target:=.fn (.method name) #[],args:=#[.iface t (cv m y)]++(aW m va).toArray } w:=by simp_all[resolve,cv]
       rw[qV h1];show(invoke (.fn (.method name) #[]) (#[.iface t (cv m y)]++(aW m va).toArray)).run P w=_;unfold invoke;simp only[Array.getElem?_append,List.size_toArray,List.length_cons,List.length_nil,Nat.zero_add,Nat.lt_succ_self,if_true];show(callMethod (.iface t (cv m y)) name _).run P w=_;unfold callMethod;simp only[];rw[qV (show(program).run P w=.ok P w from rfl)];have Ej:(method (P.types.size+Made.depth) t (cv m y) name).run P w=.ok (f,cv m y) w:=qVm (qg0 (qxd hf)) _ _ _;grind[qV,aW,List.take_of_length_le]
      rw[cP];refine⟨(λhh=>by cases hh),?_⟩;have k3:=k2 (n-1);rw[List.nil_append,List.append_nil]at k3;refine CallsIn.mono (show CallsIn (FW rd) (n-1) P f _ w _ from k3) ?_;rintro ee w' ⟨m',D',rfl,ex,re,hd⟩;grind
     grind
   grind
  have iO:∀cl x n,o.op=.call cl→cl.callee≠.invoke x n:=λcl x n h1 h2=>hi ⟨cl,x,n,h1,h2⟩;obtain⟨m',D',w',cK,ex,re,hd⟩:=TY (o:=o) Eh iO hr R e;rcases cK with cK |⟨cK,LR⟩
  ·rw[cK];exact hn m' D' w' ex re hd
  ·rw[cK];have:=hn m' D' w' ex re hd;rw[LR,TZ]at this;trivial
end Go.Ae
namespace Go.Ae
open Go
variable {P:Program} {m:Mp} {D:Nat→Prop} {h h':AH} {w:World} {c:CV} {o:Oper} {v:AV}
structure eJ (m:Mp) (D:Nat→Prop) (n:Nat) (a:Act) (tm:PT AV):Prop where
  size:n≤a.tmps.size
  at_:∀t v,tm.get t=some v→a.tmps[t]? =some (cv m v)∧bu D v
theorem eJ.ev {n:Nat} {a:Act} {tm:PT AV} (T:eJ m D n a tm):dQ m D a.eval (ev tm):=by
 intro x v e;cases x with
 |tmp t=>simp only[Ae.ev]at e;obtain⟨h1,h2⟩:=T.at_ t v e;simp_all[Act.eval,Array.getD_eq_getD_getElem?,Option.getD_some]
 |const k=>simp only[Ae.ev]at e;obtain⟨h1,h2⟩:=J7 (m:=m) (D:=D) e;exact⟨h1.symm,h2⟩
 |global g=>trivial
 |func f=>simp only[Ae.ev,Option.some.injEq]at e;subst e;trivial
theorem eJ.mono {m':Mp} {D':Nat→Prop} {w':World} {n:Nat} {a:Act} {tm:PT AV} (T:eJ m D n a tm) (e:Ext m D h w m' D' h' w'):eJ m' D' n a tm :=
 ⟨T.size,λt v hv=>by
  obtain⟨h1,h2⟩:=T.at_ t v hv
  exact⟨by rw[e.cv h2];grind,e.bu h2⟩⟩
theorem eJ.put {n:Nat} {a:Act} {tm:PT AV} (T:eJ m D n a tm) {dst:Option Tmp} {k:PT AV→R} {r:AV×AH} (hv:bu D v) (e:NZ n tm dst v k=some r) :
  ∃tm',k tm'=some r∧eJ m D n (a.put dst (cv m v)) tm':=by
 cases dst with
 |none=>exact⟨tm,e,T⟩
 |some d=>
  simp only[NZ,zW]at e;obtain⟨hd,e⟩:=e;have hd:=zL hd;refine⟨_,e,by simp[Act.put];exact T.size,?_⟩;intro t u hu;rw[PT.bP]at hu;by_cases ht:d=t
  ·subst ht;rw[iJ rfl]at hu;cases hu;refine⟨?_,hv⟩;have:=T.size;grind[Act.put,Array.getElem?_setIfInBounds_self]
  ·rw[iQ ht]at hu;obtain⟨h1,h2⟩:=T.at_ t u hu;grind[Act.put,Array.getElem?_setIfInBounds_ne]
theorem kS (a:Act) (dst:Option Tmp) (x:Value):(a.put dst x).defers=a.defers:=by cases dst<;>rfl
structure Ao (P:Program) (m:Mp) (D:Nat→Prop) (h:AH) (w:World) (n:Nat) (ds:List Deferred) (a:Act) (tm:PT AV) (m':Mp) (D':Nat→Prop) (h':AH) (w':World):Prop where
  ext:Ext m D h w m' D' h' w'
  rel:Rel P m' D' h' w'
  tm:eJ m' D' n a tm
  defers:a.defers=ds
theorem Uu {ops:Array Oper} {a:Act} {dst:Option Tmp} {x:Value} {g:Nat} {p:Oper} {d:Tmp} (hp:ops[g]? =some p) (hd:p.dst=some d) (cg:dst≠some d) :
  yielded ops (a.put dst x).tmps g=yielded ops a.tmps g:=by
 unfold yielded;simp only[hp,Option.bind_some,hd];cases dst with
 |none=>rfl
 |some t=>grind[Act.put,Array.getElem?_setIfInBounds_ne]
theorem Y9 {d:Nat} {l:List Oper} (hw:writes d l=false):∀o∈l,o.dst≠some d:=by
 induction l with
 |nil=>simp
 |cons x l ih=>
  simp only[writes,Bool.or_eq_false_iff]at hw;intro o ho;rcases List.mem_cons.1 ho with rfl |ho
  ·intro e;simp_all
  grind
end Go.Ae
