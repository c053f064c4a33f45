/- The abstract executor of the program's form in Lean, shown sound: new blocks, cuts, appends, copies, conversions, ranges; every operation; calls. -/
import Derived.Test.YtemjbhdofokbhaaGreatDoorMachineGoesAe2
import Derived.Laws.BytesString
namespace Go.Ae
open Go
variable {P:Program} {m:Mp} {D:Nat→Prop} {h h':AH} {w:World} {c:CV} {ρ:Operand→Value} {r:Operand→Option AV} {o:Oper} {v:AV}
theorem Px (R:Rel P m D h w) {s:Sem Value} {b:dh} {ob_:Obj} {room:Nat} {z:AV} {w0:World}
  (hs:s.run P w=.ok (cv (λx=>if x=h.nx then(w.heap.size,room)else m x) z) w0)
  (Ax:w0.heap=w.heap.push ob_) (Bv:w0.os=w.os) (lB:w0.tape=w.tape) (iD:w0.output=w.output)
  (hb:cV D b) (hbr:dE P m b (w.heap.size,room) w0) (hz:bD (λx=>x=h.nx∨D x) z) (lh:∀t,b≠.dv t:=by intro t hh;cases hh) :
  eJ P m D h w ((do pure (Next.value (← s)):Sem Next).run P w) z (h.new b):=by
 obtain⟨e,r'⟩:=R.new b ob_ room Ax Bv lB iD hb hbr lh;exact⟨_,_,w0,.inl (by simp_all),e,r',hz⟩
theorem JG (t:TypeId) (cs:Array Value):(newRow t cs).run P w=.ok ⟨w.heap.size,0,none⟩ { w with heap:=w.heap.push (.cells cs t) }:=rfl
theorem Z5 {ct:CT} {cs:List AV} {t:TypeId} (mo:ct.toList=cs) (w0:World) (Ax:w0.heap=w.heap.push (.cells (bj m cs).toArray t)):dE P m (.cells ct t false) (w.heap.size,0) w0:=by refine⟨[],(0,0),?_,λ_=>rfl,λi _=>by simp,λh=>by grind⟩;grind
theorem qxB (R:Rel P m D h w) {x z:AV} {t:TypeId} (hx:bD D x) (e:w5 h t x fin=some (z,h')) :
  eJ P m D h w ((do pure (Next.value (← (do pure (.pointer (some (← newVar t (cv m x)))):Sem Value))):Sem Next).run P w) z h':=by
 unfold w5 at e;simp only[jC,qr]at e;obtain⟨_,rfl,rfl⟩:=e;refine Px R (w0:={ w with heap:=w.heap.push (.cells (bj m x.cells).toArray t) }) (room:=0) ?_ rfl rfl rfl rfl (by grind[cV,CT.aP,ka]) (Z5 (CT.aP _) _ rfl) (.inl rfl);simp[newVar,w8,JG,cv]
theorem qxi {t:TypeId} (ho:o.op=.alloc t) (R:Rel P m D h w) (e:bC P c o.op r h fin=some (v,h')):eJ P m D h w ((execOp ρ o).run P w) v h':=by
 rw[ho]at e;simp only[bC,qC]at e;obtain⟨z,hz,e⟩:=e;obtain⟨z1,z2⟩:=vr (w:=w) (m:=m) (D:=D) hz;have:=qxB R z2 e;simp_all[execOp,Instr.alloc,pure,newVar]
theorem jVB {t:TypeId} {x:Operand} (ho:o.op=.box t x) (hr:eX m D ρ r) (R:Rel P m D h w) (e:bC P c o.op r h fin=some (v,h')):eJ P m D h w ((execOp ρ o).run P w) v h':=by rw[ho]at e;simp only[bC,qC]at e;obtain⟨a,ha,e⟩:=e;obtain⟨a1,a2⟩:=hr _ _ ha;have:=qxB R a2 e;simp only[execOp,ho,a1];trivial
theorem Xl {cl:Call} {b:Builtin} (ho:o.op=.call cl) (hc:cl.callee=.builtin b) :
  ∃cs,(execOp ρ o).run P w=(builtin b cl.argTypes o.type cs (cl.args.map ρ)).run P w:=by
 refine⟨cl.args.map fun | .const _=>true |_=>false,?_⟩;simp only[execOp,ho];have h1:(resolve ρ cl o.type).run P w=.ok { target:=.builtin b cl.argTypes o.type (cl.args.map fun | .const _=>true |_=>false),args:=cl.args.map ρ } w:=by unfold resolve;rw[hc];rfl
 rw[qq h1];rfl
theorem J0 {α:Type} {a:Array α} {l:List α} (h:a.toList=l):a=l.toArray:=by grind
theorem jKT {cl:Call} (ho:o.op=.call cl) (hc:cl.callee=.builtin .len) (hr:eX m D ρ r) (R:Rel P m D h w) (e:bC P c o.op r h fin=some (v,h')):eJ P m D h w ((execOp ρ o).run P w) v h':=by
 obtain⟨cs,hx⟩:=Xl (P:=P) (w:=w) (ρ:=ρ) ho hc;rw[ho]at e;simp only[bC,hc]at e
 split at e
 ·rename_i x xs t ts ha ht;simp only[qC]at e;obtain⟨a,sg,d,hd,e⟩:=e;obtain⟨a1,a2⟩:=hr _ _ sg;rw[hx,J0 ha,J0 ht]
  have dy:∀z,(∀u,P.underlying t=some u→(match u,cv m a with
    | .string,.string s=>(pure (goInt s.size):Sem Value)
    | .array n _,_=>pure (goInt n)
    | .pointer arr,_=>do
     let .array n _ ← underlying arr | stuck "len: pointer to array expected"
     pure (goInt n)
    | .slice _,.slice _ n _=>pure (goInt n)
    | .map _ _,.map none | .chan _ _,.chan none=>pure (goInt 0)
    | .map _ _,.map (some r)=>do
     let .map entries _ ← getObj r | stuck "len: map expected"
     pure (goInt entries.size)
    | .chan _ _,.chan (some r)=>do
     let .chan _ buf _ _ _ timer ← getObj r | stuck "len: channel expected"
     pure (goInt (if timer then 0 else buf.size))
    | _, _ => stuck "len: string, array, pointer to array, slice, map or channel expected").run P w = .ok z w) →
    (Builtin.len_ (t::ts).toArray o.type ((x::xs).toArray.map ρ)).run P w=.ok z w:=by
   intro z hz;unfold Builtin.len_;simp only[List.getElem?_toArray,List.getElem?_cons_zero,List.map_toArray,List.map_cons,a1];rw[qq (Ae.run_underlying hd)];grind
  have pV:∀n:Nat,v=.int .i64 (.ofNat n)→h=h'→(Builtin.len_ (t::ts).toArray o.type ((x::xs).toArray.map ρ)).run P w=.ok (goInt n) w→
    eJ P m D h w ((builtin .len (t::ts).toArray o.type cs ((x::xs).toArray.map ρ)).run P w) v h':=by
   rintro n rfl rfl hl;exact zM R hl trivial
  cases d<;>simp only[reduceCtorEq]at e
  case string=>
   unfold J2 at e
   split at e
   ·rename_i q;simp only[qr]at e;obtain⟨rfl,rfl⟩:=e;refine pV _ rfl rfl (dy _ λu hu=>?_);rw[hd]at hu;cases hu;rfl
   grind
  case array n el=>simp only[qr]at e;obtain⟨rfl,rfl⟩:=e;simp_all
  case slice el=>
   unfold Qb at e
   split at e
   ·simp only[qr]at e;obtain⟨rfl,rfl⟩:=e;refine pV _ rfl rfl (dy _ λu hu=>?_);rw[hd]at hu;cases hu;rfl
   ·simp only[qr]at e;obtain⟨rfl,rfl⟩:=e;refine pV 0 rfl rfl (dy _ λu hu=>?_);rw[hd]at hu;cases hu;rfl
   ·simp only[qr]at e;obtain⟨rfl,rfl⟩:=e;refine pV 0 rfl rfl (dy _ λu hu=>?_);rw[hd]at hu;cases hu;rfl
   ·simp only[qr]at e;obtain⟨rfl,rfl⟩:=e;refine pV 0 rfl rfl (dy _ λu hu=>?_);rw[hd]at hu;cases hu;rfl
   grind
 grind
theorem jJo {mx:Bool} {a b z:AV} (e:DN mx a b=some z):((match mx with |true=>Builtin.max2 |false=>Builtin.min2) (cv m a) (cv m b)).run P w=.ok (cv m z) w∧M7 z=true:=by
 unfold DN at e
 split at e
 ·rename_i k x k' y;rw[jC]at e;obtain⟨hk,e⟩:=e;have hk:k=k':=by grind
  subst hk;simp only[Option.some.injEq]at e;subst e;cases mx
  ·simp only[cond_false,MS,cv];refine⟨?_,rfl⟩;simp[Builtin.min2]
  ·simp only[cond_true,MS,cv];refine⟨?_,rfl⟩;simp[Builtin.max2]
 grind
theorem jQc {mx:Bool} {l:List AV} {a z:AV} (ha:M7 a=true) (e:Bn mx a l=some z) :
  ((bj m l).foldlM (match mx with |true=>Builtin.max2 |false=>Builtin.min2) (cv m a)).run P w=.ok (cv m z) w∧M7 z=true:=by
 induction l generalizing a with
 |nil=>simp[Bn]at e;subst e;trivial
 |cons b l ih=>simp only[Bn,Option.bind_eq_some_iff]at e;obtain⟨y,hy,e⟩:=e;obtain⟨y1,y2⟩:=jJo (P:=P) (m:=m) (w:=w) hy;obtain⟨z1,z2⟩:=ih y2 e;simp_all[bj,List.foldlM_cons]
theorem jXs {cl:Call} {mx:Bool} (ho:o.op=.call cl) (hc:cl.callee=.builtin (match mx with |true=>.max |false=>.min)) (hr:eX m D ρ r) (R:Rel P m D h w) (e:bC P c o.op r h fin=some (v,h')):eJ P m D h w ((execOp ρ o).run P w) v h':=by
 obtain⟨cs,hx⟩:=Xl (P:=P) (w:=w) (ρ:=ρ) ho hc;rw[ho]at e;have e':(ob (kK r cl.args.toList) λl=>o8 mx l λz=>fin z h)=some (v,h'):=by
  grind
 simp only[qC]at e';obtain⟨l,hl,e⟩:=e';obtain⟨l1,l2⟩:=JA hr hl;unfold o8 at e
 split at e
 ·rename_i a q;simp only[jC,qC,qr]at e;obtain⟨hi,z,hz,rfl,rfl⟩:=e;obtain⟨z1,z2⟩:=jQc (P:=P) (m:=m) (w:=w) hi hz;have hv:bD D z:=by cases z<;>simp[M7]at z2;trivial
  rw[hx];have lE:(cl.args.map ρ).toList=cv m a::bj m q:=by rw[Array.toList_map,l1];rfl
  cases mx
  ·refine zM R (s:=Builtin.min_ cl.argTypes o.type (cl.args.map ρ)) ?_ hv;grind[Builtin.min_]
  ·refine zM R (s:=Builtin.max_ cl.argTypes o.type (cl.args.map ρ)) ?_ hv;grind[Builtin.max_]
 grind
end Go.Ae
namespace Go.Ae
open Go
variable {P:Program} {m:Mp} {D:Nat→Prop} {h h':AH} {w:World} {c:CV} {ρ:Operand→Value} {r:Operand→Option AV} {o:Oper} {v:AV}
theorem UP {x:AV} {y n:Nat} {code:BoundsCode} (e:uh x y=some n):(Instr.sliceBound (cv m x) y code).run P w=.ok n w∧n≤y:=by
 unfold uh at e
 split at e
 ·rename_i k q;rw[jC]at e;obtain⟨hq,e⟩:=e;have hq:=zE hq;simp_all[Option.some.injEq,Instr.sliceBound,cv,asIntOf]
 grind
theorem Xd {isS:Bool} {len cap u l:Nat} {lo hi:Option AV} (hu:gQ hi cap len=some u) (hl:gQ lo u 0=some l) :
  (Instr.sliceBounds isS len cap (lo.map (cv m)) (hi.map (cv m)) none).run P w=.ok (l,u,cap) w∧(hi=none∨u≤cap)∧(l≤u)∧(hi=none→u=len):=by
 unfold Instr.sliceBounds;have h1:((pure cap:Sem Nat)).run P w=.ok cap w:=rfl;rw[qq h1];cases hi with
 |none=>
  simp only[gQ,Option.some.injEq]at hu;subst hu;simp only[Option.map_none];rw[qq (show(pure len:Sem Nat).run P w=.ok len w from rfl)];cases lo with
  |none=>simp only[gQ,Option.some.injEq]at hl;simp;omega
  |some x=>obtain⟨h2,h3⟩:=UP (P:=P) (m:=m) (w:=w) (code:=.sliceB) hl;simp_all
 |some y=>
  simp only[Option.map_some];obtain⟨h4,h5⟩:=UP (P:=P) (m:=m) (w:=w) (code:=if isS then .sliceAcap else .sliceAlen) hu;rw[qq h4];cases lo with
  |none=>simp only[gQ,Option.some.injEq]at hl;simp;omega
  |some x=>obtain⟨h2,h3⟩:=UP (P:=P) (m:=m) (w:=w) (code:=.sliceB) hl;simp_all
theorem qkR (hr:eX m D ρ r) {x:Option Operand} {y:Option AV} (e:Kz r x=some y):x.map ρ=y.map (cv m):=by
 cases x with
 |none=>grind[Kz]
 |some x=>simp only[Kz,Option.map_eq_some_iff]at e;obtain⟨a,ha,rfl⟩:=e;simp[(hr _ _ ha).1]
theorem qv2 {t:TypeId} {x:Operand} {lo hi mx:Option Operand} (ho:o.op=.slice t x lo hi mx) (hr:eX m D ρ r) (R:Rel P m D h w) (e:bC P c o.op r h fin=some (v,h')):eJ P m D h w ((execOp ρ o).run P w) v h':=by
 rw[ho]at e;cases mx<;>simp only[bC,reduceCtorEq]at e
 simp only[qC]at e;obtain⟨a,ha,ID,dI,mq,mH,d,hd,e⟩:=e;obtain⟨a1,a2⟩:=hr _ _ ha;simp only[execOp,ho,a1,qkR hr dI,qkR hr mH,Option.map_none];cases d<;>simp only[reduceCtorEq]at e
 case string=>
  unfold wB at e
  split at e
  ·rename_i s;simp only[qC,qr]at e;obtain⟨u,hu,l,hl,t',ht,rfl,rfl⟩:=e;obtain⟨b1,_,b2,_⟩:=Xd (P:=P) (m:=m) (w:=w) (isS:=false) hu hl;refine zM R ?_ trivial;unfold Instr.sliceAt;rw[qq (Ae.run_underlying hd)];simp only[];unfold Instr.slice;rw[qq (Ae.run_underlying hd)];simp only[cv,Option.isSome_none,Bool.false_eq_true,if_false];have hs:(ByteArray.mk s.toArray).size=s.length:=by rfl
   rw[hs];rw[qq b1];simp only[wz]
   congr 2
   rw[Qy]at ht;obtain⟨t1,t2⟩:=kc ht;subst t1;apply ByteArray.ext;simp
  grind
 case slice el=>
  simp only[qC]at e;obtain⟨sz,bP,e⟩:=e;have main:∀(A:Option Addr) (len cap u l:Nat) (z:AV),cv m a=.slice A len cap→gQ mq cap len=some u→gQ ID u 0=some l→bD D z→
    cv m z=.slice (if cap=l then A else A.map (·.add (l*sz))) (u-l) (cap-l)→eJ P m D h w ((do pure (Next.value (← Instr.sliceAt t (cv m a) (ID.map (cv m)) (mq.map (cv m)) none)):Sem Next).run P w) z h:=by
   intro A len cap u l z Py hu hl hz hcz;obtain⟨b1,_,b2,_⟩:=Xd (P:=P) (m:=m) (w:=w) (isS:=true) (len:=len) hu hl;refine zM R ?_ hz;unfold Instr.sliceAt;rw[qq (Ae.run_underlying hd)];simp_all[Instr.slice,Ae.run_underlying,Ae.run_sizeOf]
  unfold yh at e
  split at e
  ·rename_i b off len cap;simp only[qC,qr]at e;obtain⟨u,hu,l,hl,rfl,rfl⟩:=e;refine main _ len cap u l _ rfl hu hl a2 ?_;simp only[cv];cases fF:Nat.beq cap l
   all_goals simp_all[gV,cond_false,Option.map_some,kO]
  ·rename_i b off len i0;simp only[jC,qC]at e;obtain⟨hf,u,hu,l,hl,e⟩:=e;unfold vo at hf
   split at hf
   ·rename_i cs el' hg;simp only[Bool.and_eq_true]at hf;obtain⟨f0,f1,f2,f3⟩:=hf;have f0:=zC f0;have f1:=zE f1;have f2:=zC f2;have f3:=zE f3;subst f0;obtain⟨rest,fr,h1,h2,h3,h4,h5⟩:=R.cells a2 hg;obtain⟨h4a,h4b⟩:=h4 rfl sz bP;rw[CT.dR]at f3;have Ec:i0+len≤(m b).2:=by
     have:(i0+len)*sz≤(m b).2*sz:=by grind
     exact Nat.le_of_mul_le_mul_right this f1
    have CZ:gQ mq ((m b).2-i0) len=some u:=by
     cases mq with
     |none=>exact hu
     |some y=>
      simp only[gQ,uh]at hu ⊢
      split at hu
      ·rename_i k q;rw[jC]at hu ⊢;simp at*;omega
      grind
    have hule:u≤len:=by
     cases mq with
     |none=>grind[gQ,Option.some.injEq]
     |some y=>
      simp only[gQ,uh]at hu
      split at hu
      ·rw[jC]at hu;simp at*;omega
      grind
    cases l5:Nat.beq l 0
    ·have Ed:=gV l5;rw[l5]at e;simp only[cond_false]at e;cases sh:Nat.ble (l+1) len
     ·rw[sh]at e;simp only[cond_false,qr]at e;obtain⟨rfl,rfl⟩:=e;have sh:¬l+1≤len:=λh=>by simp_all[iY]
      obtain⟨_,_,q1,_⟩:=Xd (P:=P) (m:=m) (w:=w) (isS:=true) (len:=len) CZ hl;refine main _ len _ u l _ rfl CZ hl a2 ?_;simp only[cv];have e1:u-l=0:=by omega
      rw[e1];by_cases hc:(m b).2=i0+l
      ·simp_all
      ·rw[iQ hc,iQ omQ];simp[Option.map_some,kO];omega
     rw[sh]at e;simp only[cond_true,qr]at e;obtain⟨rfl,rfl⟩:=e;have sh:=zE sh;refine main _ len _ u l _ rfl CZ hl a2 ?_;simp[cv,omQ,Option.map_some,kO];omega
    ·have Ed:=zC l5;subst Ed;rw[l5]at e;simp only[cond_true,qr]at e;obtain⟨rfl,rfl⟩:=e;refine main _ len _ u 0 _ rfl CZ hl a2 ?_;simp[cv,Addr.add]
   grind
  ·simp only[qC,qr]at e;obtain⟨u,hu,l,hl,rfl,rfl⟩:=e;have Pz:u=0:=by
    cases mq with
    |none=>grind[gQ,Option.some.injEq]
    |some y=>
     simp only[gQ,uh]at hu
     split at hu
     ·rw[jC]at hu;simp at*;omega
     grind
   subst Pz;have l5:l=0:=by
    cases ID with
    |none=>grind[gQ,Option.some.injEq]
    |some y=>
     simp only[gQ,uh]at hl
     split at hl
     ·rw[jC]at hl;simp at*;omega
     grind
   subst l5;refine main none 0 0 0 0 .ap rfl hu hl trivial ?_;rfl
  ·simp only[qC,qr]at e;obtain⟨u,hu,l,hl,rfl,rfl⟩:=e;have Pz:u=0:=by
    cases mq with
    |none=>grind[gQ,Option.some.injEq]
    |some y=>
     simp only[gQ,uh]at hu
     split at hu
     ·rw[jC]at hu;simp at*;omega
     grind
   subst Pz;have l5:l=0:=by
    cases ID with
    |none=>grind[gQ,Option.some.injEq]
    |some y=>
     simp only[gQ,uh]at hl
     split at hl
     ·rw[jC]at hl;simp at*;omega
     grind
   subst l5;refine main _ 0 0 0 0 (.cA _) rfl hu hl trivial ?_;rfl
  grind
 case array n el=>
  simp only[qC]at e;obtain⟨sz,bP,e⟩:=e;unfold wI at e
  split at e
  ·rename_i b off;simp only[qC,qr]at e;obtain⟨u,hu,l,hl,rfl,rfl⟩:=e;obtain⟨b1,_,b2,_⟩:=Xd (P:=P) (m:=m) (w:=w) (isS:=false) (len:=n) hu hl;refine zM R ?_ a2;unfold Instr.sliceAt;rw[qq (Ae.run_underlying hd)];simp only[cv];rw[qq (show(Instr.sureAddr (.pointer (some ⟨(m b).1,off,none⟩))).run P w=.ok ⟨(m b).1,off,none⟩ w from rfl)];rw[qq b1];simp only[];rw[qq (Ae.run_sizeOf bP)];cases fF:Nat.beq n l
   all_goals simp_all[gV,cond_false,kO,zC]
  grind
end Go.Ae
namespace Go.Ae
open Go
variable {P:Program} {m:Mp} {D:Nat→Prop} {h h':AH} {w:World} {c:CV} {ρ:Operand→Value} {r:Operand→Option AV} {o:Oper} {v:AV}
theorem qq0:∀(vs:List Value) (C:List Value) (off i:Nat),off+i+vs.length≤C.length→
  (vs.zipIdx i).foldl (λcs (p:Value×Nat)=>cs.setIfInBounds (off+p.2) p.1) C.toArray=(C.take (off+i)++vs++C.drop (off+i+vs.length)).toArray:=by
 intro vs
 induction vs with
 |nil=>simp
 |cons v vs ih=>
  intro C off i h;simp only[List.length_cons]at h;simp only[List.zipIdx_cons,List.foldl_cons];have e0:C.toArray.setIfInBounds (off+i) v=(C.set (off+i) v).toArray:=by simp
  rw[e0,ih _ off (i+1) (by grind)]
  congr 1
  have e1:(C.set (off+i) v).take (off+(i+1))=C.take (off+i)++[v]:=by grind[List.take_succ_eq_append_getElem,List.take_set_of_le]
  have e2:(C.set (off+i) v).drop (off+(i+1)+vs.length)=C.drop (off+i+(v::vs).length):=by
   rw[List.drop_set_of_lt omQ]
   grind
  grind
theorem Nm (hr:eX m D ρ r) {pl:Nat→Option (Nat×Nat)} {l:List (Nat×Operand)} {vs:List (Nat×Nat×AV)} (e:yb pl r l=some vs) :
  ∀{z cs:List AV},vL z vs=some cs→bm D z→Instr.fill pl (bj m z).toArray (l.map λp=>(p.1,ρ p.2))=some (bj m cs).toArray∧bm D cs:=by
 induction l generalizing vs with
 |nil=>intro z cs e2 hz;simp[yb]at e;subst e;simp[vL]at e2;subst e2;trivial
 |cons p l ih=>
  obtain⟨i,x⟩:=p;intro z cs e2 hz;simp only[yb,Option.bind_eq_some_iff,Option.map_eq_some_iff]at e;obtain⟨q,hq,a,ha,s,hs,rfl⟩:=e;obtain⟨a1,a2⟩:=hr _ _ ha;simp only[vL,jC,Option.bind_eq_some_iff]at e2;obtain⟨hl,z',hz',e2⟩:=e2;have hl:=zC hl;obtain⟨e3,e4⟩:=VK hz';have tQ:bm D z':=by grind[gC,XV,ka,GA]
  obtain⟨f1,f2⟩:=ih hs e2 tQ;refine⟨?_,f2⟩;simp only[List.map_cons,Instr.fill,hq];have bP:(ρ x).cells.size=q.2:=by simp_all[w8]
  have bQ:(decide ((ρ x).cells.size≠q.2)||decide (q.1+(ρ x).cells.size>(bj m z).toArray.size))=false:=by simp_all
  simp only[bQ,Bool.false_eq_true,if_false];rw[← f1]
  congr 1
  rw[a1,w8,← Array.foldl_toList];simp_all[qq0,xg]
theorem qKE {fs:List Field} {pl:List (Nat×Nat)} (e:Qx P fs=some pl):(fs.mapM λf=>(do pure (f.offset,← sizeOf f.type):Sem (Nat×Nat))).run P w=.ok pl w:=by
 induction fs generalizing pl with
 |nil=>simp_all[Qx,kK]
 |cons f fs ih=>simp only[Qx,kK,Option.bind_eq_some_iff,Option.map_eq_some_iff]at e;obtain⟨q,⟨n,hn,rfl⟩,t,ht,he⟩:=e;cases he;rw[List.mapM_cons];rw[qq (show(do pure (f.offset,← sizeOf f.type):Sem (Nat×Nat)).run P w=.ok (f.offset,n) w from by simp_all[Ae.run_sizeOf])];rw[qq (ih ht)];rfl
theorem qV9 {fs:Array Field} {pl:List (Nat×Nat)} (e:Qx P fs.toList=some pl):(fs.mapM λf=>(do pure (f.offset,← sizeOf f.type):Sem (Nat×Nat))).run P w=.ok pl.toArray w:=by rw[Array.mapM_eq_mapM_toList];show((fs.toList.mapM λf=>(do pure (f.offset,← sizeOf f.type):Sem (Nat×Nat)))>>=λl=>pure l.toArray).run P w=_;rw[qq (qKE e)];rfl
theorem qkB {t:TypeId} {parts:Array (Nat×Operand)} (ho:o.op=.build t parts) (hr:eX m D ρ r) (R:Rel P m D h w) (e:bC P c o.op r h fin=some (v,h')):eJ P m D h w ((execOp ρ o).run P w) v h':=by
 rw[ho]at e;simp only[bC,qC]at e;obtain⟨z,hz,d,hd,e⟩:=e;obtain⟨z1,z2⟩:=vr (w:=w) (m:=m) (D:=D) hz;simp only[execOp,ho];cases d<;>simp only[reduceCtorEq]at e
 case struct fs=>
  simp only[qC]at e;obtain⟨pl,pf,vs,si,e⟩:=e;unfold yi at e;simp only[qC,qr]at e;obtain⟨cs,ph,rfl,rfl⟩:=e;have Ee:=qV9 (w:=w) pf;have Bx:yb (pl.toArray[·]?) r parts.toList=some vs:=by
   grind[QV,ya]
  obtain⟨f1,f2⟩:=Nm hr Bx ph (ka z2);refine zM R ?_ f2;unfold Instr.build;rw[qq z1];rw[qq (Ae.run_underlying hd)];simp only[];rw[qq Ee,w8];have ic:(parts.map λ(p:Nat×Operand)=>(p.1,ρ p.2)).toList=parts.toList.map λp=>(p.1,ρ p.2):=by simp
  rw[ic,f1];rfl
 case array n el=>
  simp only[qC]at e;obtain⟨sz,bP,vs,si,e⟩:=e;unfold yi at e;simp only[qC,qr]at e;obtain⟨cs,ph,rfl,rfl⟩:=e;obtain⟨f1,f2⟩:=Nm hr si ph (ka z2);refine zM R ?_ f2;unfold Instr.build;rw[qq z1];rw[qq (Ae.run_underlying hd)];simp only[];rw[qq (Ae.run_sizeOf bP),w8];have ic:(parts.map λ(p:Nat×Operand)=>(p.1,ρ p.2)).toList=parts.toList.map λp=>(p.1,ρ p.2):=by simp
  rw[ic,f1];rfl
theorem Yg {t:TypeId} {z:List AV} (e:Up P t=some z):∃i za,P.info? t=some i∧fJ P t=some za∧z=za.cells∧z.length=i.size∧qt z=true∧i.bytes≤65536∧bh P t=some z.length:=by unfold Up at e;simp only[Option.bind_eq_some_iff,jC,Bool.and_eq_true,Option.some.injEq]at e;obtain⟨i,hi,za,hz,⟨h1,h2,h3⟩,rfl⟩:=e;have h1:=zC h1;exact⟨i,za,hi,hz,rfl,h1,h2,zE h3,by grind[bh]⟩
theorem Qg {α:Type} (l:List α) (n:Nat):(gH l n).length=n*l.length:=by
 induction n with
 |zero=>simp[gH]
 |succ n ih=>grind[gH,Nat.succ_mul]
theorem ZE {l:List AV} (hl:bm D l) (n:Nat):bm D (gH l n):=by
 induction n with
 |zero=>trivial
 |succ n ih=>exact gC.2 ⟨hl,ih⟩
theorem qvS {α:Type} [Inhabited α] (l:List α) (n i:Nat) (hi:i<n*l.length):(gH l n)[i]? =some (l.toArray[i%l.toArray.size]!):=by
 induction n generalizing i with
 |zero=>grind
 |succ n ih=>
  have PA:0<l.length:=by
   grind
  simp only[gH];by_cases ax:i<l.length
  ·grind[List.getElem?_append_left,List.size_toArray,Nat.mod_eq_of_lt]
  ·rw[List.getElem?_append_right omQ,ih (i-l.length) (by grind)]
   congr 2
   simp only[List.size_toArray]
   conv=>rhs;rw[show i=(i-l.length)+l.length from by omega,Nat.add_mod_right]
theorem qZD (z:List AV) (n:Nat) (m:Mp):((Array.range (n*z.length)).map λi=>(bj m z).toArray[i%(bj m z).toArray.size]!)=(bj m (gH z n)).toArray:=by
 apply Array.ext
 ·simp[Qg]
 ·intro i h1 h2;have hi:i<n*z.length:=by grind
  have hg:=qvS (bj m z) n i (by simp_all);have hr:gH (bj m z) n=bj m (gH z n):=by
   clear hg h1 h2 hi
   induction n with
   |zero=>rfl
   |succ n ih=>grind[gH,GQ]
  grind
theorem qk3 {α:Type} (f:Nat→α):(Array.range 0).map f= #[]:=by simp
theorem qjp {t:TypeId} {len:Nat} {parts:Array (Nat×Operand)} (ho:o.op=.buildSlice t len parts) (hr:eX m D ρ r) (R:Rel P m D h w) (e:bC P c o.op r h fin=some (v,h')):eJ P m D h w ((execOp ρ o).run P w) v h':=by
 rw[ho]at e;simp only[bC,qC]at e;obtain⟨d,hd,e⟩:=e;cases d<;>simp only[reduceCtorEq]at e
 rename_i el;simp only[qC,yq]at e;obtain⟨z,hz,hlen,vs,si,e⟩:=e;have hlen:=zE hlen;obtain⟨i,za,hi,By,rfl,pW,pU,IE,bP⟩:=Yg hz;unfold xL at e;simp only[qC,jC,qr]at e;obtain⟨cs,ph,hcone,rfl,rfl⟩:=e;obtain⟨z1,z2⟩:=vr (w:=w) (m:=m) (D:=D) By;obtain⟨f1,f2⟩:=Nm hr si ph (ZE (ka z2) len);simp only[execOp,ho];refine Px R (w0:={ w with heap:=w.heap.push (.cells (bj m cs).toArray el) }) (room:=0) ?_ rfl rfl rfl rfl (by grind[cV,CT.aP]) (Z5 (CT.aP _) _ rfl) (.inl rfl);unfold Instr.buildSlice;rw[qq (Ae.run_underlying hd)];simp only[];rw[qq (Ae.run_sizeOf bP)];have bQ:¬(len*za.cells.length>2 ^ 24):=by omega
 simp only[bQ,if_false];have ic:(parts.map λ(p:Nat×Operand)=>(p.1,ρ p.2)).toList=parts.toList.map λp=>(p.1,ρ p.2):=by simp
 have zs:=qZD za.cells len m;have z0:(bj m za.cells).toArray.size=za.cells.length:=by simp
 have last:∀cells,Instr.fill (λi=>some (i*za.cells.length,za.cells.length)) cells (parts.map λ(x:Nat×Operand)=>(x.1,ρ x.2)).toList=some (bj m cs).toArray→
   (match Instr.fill (λi=>some (i*za.cells.length,za.cells.length)) cells (parts.map λ(x:Nat×Operand)=>(x.1,ρ x.2)).toList with
    |some cells=>(do
      let a ← newRow el cells
      pure (Value.slice (some a) len len):Sem Value)
    | _ => stuck "buildSlice: a part of the wrong size").run P w = .ok (cv (fun x => if x = h.nx then (w.heap.size, 0) else m x) (.slice h.nx 0 len len false)) { w with heap := w.heap.push (.cells (bj m cs).toArray el) } := by
  simp_all[JG,cv]
 split
 ·grind
 ·rw[qq z1,w8];grind
theorem qKh {n:Nat} (h:n≤1073741824):IntKind.i64.wrap (Int.ofNat n)=Int.ofNat n:=by simp[UC];omega
theorem Vv (n:Nat):(askRoom n).run P w=.ok () w:=by
 simp
theorem jXC {t:TypeId} {x y:Operand} (ho:o.op=.makeSlice t x y) (hr:eX m D ρ r) (R:Rel P m D h w) (e:bC P c o.op r h fin=some (v,h')):eJ P m D h w ((execOp ρ o).run P w) v h':=by
 rw[ho]at e;simp only[bC,qC]at e;obtain⟨d,hd,e⟩:=e;cases d<;>simp only[reduceCtorEq]at e
 rename_i el;simp only[qC]at e;obtain⟨z,hz,a,ha,b,hb,e⟩:=e;obtain⟨a1,a2⟩:=hr _ _ ha;obtain⟨b1,b2⟩:=hr _ _ hb;obtain⟨i,za,hi,By,rfl,pW,pU,IE,bP⟩:=Yg hz;unfold JY at e
 split at e
 ·rename_i k1 ln k2 cp;simp only[jC,qr,Bool.and_eq_true]at e;obtain⟨⟨h1,h2⟩,rfl,rfl⟩:=e;have h1:=zE h1;have h2:=zE h2;obtain⟨z1,z2⟩:=vr (w:=w) (m:=m) (D:=D) By;simp only[execOp,ho,a1,b1];refine Px R (w0:={ w with heap:=w.heap.push (.cells (bj m (gH za.cells cp)).toArray el) }) (room:=0) ?_ rfl rfl rfl rfl (by grind[cV,CT.oB,ZE,ka]) (Z5 (CT.oB _ _) _ rfl) (.inl rfl);unfold Instr.makeSlice;rw[qq (Ae.run_underlying hd)];simp only[cv];rw[qq (show(asInt (.int k1 (.ofNat ln))).run P w=.ok (.ofNat ln) w from rfl)];rw[qq (show(asInt (.int k2 (.ofNat cp))).run P w=.ok (.ofNat cp) w from rfl)];rw[qq (Ae.run_typeInfo hi)];simp only[qKh (show ln≤1073741824 by omega),qKh h2];have iE:i.bytes*cp≤65536*1073741824:=Nat.mul_le_mul IE h2;have nB:(decide (Int.ofNat cp<0)||decide ((i.bytes:Int)*Int.ofNat cp>2 ^ 48)||decide (Int.ofNat ln<0)||decide (Int.ofNat ln>Int.ofNat cp))=false:=by
   grind
  simp only[nB,Bool.false_eq_true,if_false];rw[qq (Vv _)];rw[qq (Ae.run_sizeOf bP)];simp only[show(Int.ofNat cp).toNat=cp from rfl,show(Int.ofNat ln).toNat=ln from rfl];have zs:=qZD za.cells cp m
  split
  ·rename_i h0;rw[qq (show(pure #[]:Sem (Array Value)).run P w=.ok #[] w from rfl)];have:gH za.cells cp=[]:=iA (by rw[Qg,h0]);simp_all[qk3,JG]
  ·rw[qq z1,w8];rw[qq (show(pure (bj m za.cells).toArray:Sem (Array Value)).run P w=.ok _ w from rfl)];simp_all[JG]
 grind
end Go.Ae
namespace Go.Ae
open Go
variable {P:Program} {m:Mp} {D:Nat→Prop} {h h':AH} {w:World} {c:CV} {ρ:Operand→Value} {r:Operand→Option AV} {o:Oper} {v:AV}
theorem qjU {x:AV} {n:Nat} (e:Ue x=some n):(Builtin.lenOf (cv m x)).run P w=.ok n w:=by
 cases x<;>simp only[Ue,reduceCtorEq,Option.some.injEq]at e<;>subst e
 ·rfl
 all_goals rfl
theorem NT (R:Rel P m D h w) {x:AV} {sz n:Nat} {l:List AV} (hx:bD D x) (e:Xo h sz n x=some l) :
  (Builtin.firstCells sz n (cv m x)).run P w=.ok (bj m l).toArray w∧bm D l:=by
 cases x<;>simp only[Xo,reduceCtorEq]at e
 case str s=>
  simp only[Option.map_eq_some_iff]at e;obtain⟨t,ht,rfl⟩:=e;obtain⟨t1,t2⟩:=kc ht;refine⟨?_,?_⟩
  ·simp only[cv,Builtin.firstCells,wz]
   congr 1
   subst t1;rw[ByteArray.data_extract];simp[xg,List.extract_eq_take_drop];rfl
  ·rw[yY];intro v hv;rw[List.mem_map]at hv;obtain⟨b,_,rfl⟩:=hv;trivial
 case slice b off len cp aS=>obtain⟨h1,h2,_⟩:=R.read hx e;trivial
 case ap=>simp only[Option.some.injEq]at e;subst e;trivial
 case cA a=>simp only[jC,Option.some.injEq]at e;obtain⟨e1,rfl⟩:=e;have e1:=zC e1;subst e1;refine⟨?_,trivial⟩;simp only[cv,Builtin.firstCells,Nat.zero_mul];rfl
 case tail b o o' i1=>simp only[jC,Option.some.injEq]at e;obtain⟨e1,rfl⟩:=e;have e1:=zC e1;subst e1;refine⟨?_,trivial⟩;simp only[cv,Builtin.firstCells,Nat.zero_mul];rfl
def qk5 (h:AH) (sz n:Nat) (x:AV) (l:List AV):Prop :=
 Xo h sz n x=some l∨∃b off len cap aS c t o,x=.slice b off len cap aS∧h.get b=some (.cells c t o)∧vh (n*sz) (gg off c.toList)=some l
theorem qwS {h:AH} {sz n:Nat} {x:AV} {nc:CT} (e:Nb h sz n x=some nc):qk5 h sz n x nc.toList:=by
 cases x<;>simp only[Nb,reduceCtorEq]at e
 case slice b off len cap aS=>
  split at e
  ·rename_i c t o hg;exact .inr ⟨b,off,len,cap,aS,c,t,o,rfl,hg,CT.Bu e⟩
  ·rename_i t hg;simp only[Option.bind_eq_some_iff]at e;obtain⟨l,hl,e⟩:=e;cases e;refine .inl ?_;grind[Xo,vv,CT.aP]
  grind
 case ap=>cases e;exact .inl rfl
 case cA a=>rw[jC]at e;obtain⟨e1,e⟩:=e;cases e;refine .inl ?_;simp only[Xo,e1,cond_true];rfl
 case tail b o o' i1=>rw[jC]at e;obtain⟨e1,e⟩:=e;cases e;refine .inl ?_;simp only[Xo,e1,cond_true];rfl
 case str s=>simp only[Option.bind_eq_some_iff]at e;obtain⟨l,hl,e⟩:=e;cases e;refine .inl ?_;simp_all[Xo,Option.map_some,CT.aP]
theorem qqU (oE:Nat):∀(rounds c:Nat),c≤2*oE+1000→Builtin.growBy oE rounds c≤2*oE+1000:=by
 intro rounds
 induction rounds with
 |zero=>intro c h;exact h
 |succ n ih=>
  grind[Builtin.growBy]
theorem jQB {aC cap:Nat} (h:cap<aC):Builtin.nextslicecap aC cap≤2*aC+1000:=by
 unfold Builtin.nextslicecap
 split
 ·omega
 ·split
  ·omega
  ·exact qqU aC 4 cap omQ
theorem qVl {t u:TypeId} {ts:List TypeId} {ty:TypeId} {e:TypeId} {du:TypeDesc} {i:TypeInfo} {za:AV} {s x:Value} {base:Option Addr} {dK fL n:Nat} {new:Array Value}
  (ht:P.underlying t=some (.slice e)) (hu:P.underlying u=some du) (PB:∀k,du≠.int k) (hi:P.info? e=some i) (By:fJ P e=some za) (hz:za.cells.length=i.size) (hb:i.bytes≤65536)
  (hs:s=.slice base dK fL) (hlen:(Builtin.lenOf x).run P w=.ok n w) (sj:∀W:World,W.heap=w.heap→(Builtin.firstCells i.size n x).run P W=.ok new W) :
  (dK+n≤fL→(Builtin.append_ (t::u::ts).toArray ty [s,x].toArray).run P w=
   (do (match(generalizing:=false) base with |some a=>storeCells (a.add (dK*i.size)) new.toList |none=>pure ());pure (.slice base (dK+n) fL):Sem Value).run P w)∧
  (¬dK+n≤fL→dK+n≤67108864→∀cD:Array Value,(∀W:World,W.heap=w.heap→(Builtin.firstCells i.size dK s).run P W=.ok cD W)→
   ∃(cap:Nat) (rest:Array Value),dK+n≤cap∧rest.size=(cap-(dK+n))*i.size∧
    (Builtin.append_ (t::u::ts).toArray ty [s,x].toArray).run P w=.ok (.slice (some ⟨w.heap.size,0,none⟩) (dK+n) cap) { w with drawn:=w.drawn+1,heap:=w.heap.push (.cells (cD++new++rest) e) }):=by
 subst hs;have bP:bh P e=some i.size:=by grind[bh]
 unfold Builtin.append_;simp only[List.getElem?_toArray,List.getElem?_cons_zero,List.getElem?_cons_succ];rw[qq (Ae.run_underlying ht)];simp only[];rw[qq (Ae.run_sizeOf bP)];rw[qq (Ae.run_underlying hu)];cases du<;>first |(exact absurd rfl (PB _)) |skip
 all_goals
  rw[qq (show(pure _:Sem Bool).run P w=.ok false w from rfl)];simp only[Bool.false_eq_true,if_false,Bool.not_false,if_true];rw[qq hlen];constructor
  ·intro hle;simp only[iJ hle];rw[qq (sj w rfl)];cases base<;>rfl
  ·intro PC PD cD hold;simp only[iQ PC];rw[qq (Ae.run_typeInfo hi)];have h1:¬(((dK+n:Nat):Int)>IntKind.i64.max∧(False∨i.bytes=0)):=by
    rintro⟨hh,_⟩;have:((dK+n:Nat):Int)>9223372036854775807:=hh;omega
   simp only[iQ h1];rw[qq (Ae.run_typeInfo hi)];have h2:¬(Builtin.nextslicecap (dK+n) fL*i.bytes>2 ^ 48):=by have a1:=jQB (show fL<dK+n by omega);have a2:Builtin.nextslicecap (dK+n) fL*i.bytes≤134219728*65536:=Nat.mul_le_mul omQ hb;omega
   simp only[iQ h2];refine⟨(Question.appendCap (dK+n) fL e).cut (w.tape w.drawn (.appendCap (dK+n) fL e)),(Builtin.zeroCells (bj (λ_=>(0,0)) za.cells).toArray ((Question.appendCap (dK+n) fL e).cut (w.tape w.drawn (.appendCap (dK+n) fL e))-(dK+n))),?_,?_,?_⟩
   ·simp only[Question.cut];omega
   ·simp[Builtin.zeroCells,hz]
   ·rw[qq (show(choose (.appendCap (dK+n) fL e)).run P w=.ok _ { w with drawn:=w.drawn+1 }from rfl)];rw[qq (Ae.run_typeInfo hi)];rw[qq (Vv _)];rw[qq (hold { w with drawn:=w.drawn+1 } rfl)];rw[qq (sj { w with drawn:=w.drawn+1 } rfl)];rw[qq (vr (m:=λ_=>(0,0)) (D:=λ_=>True) By).1];rw[qq (JG e _),w8];rfl
theorem Rel.kill (r:Rel P m D h w) (b:Nat) (hb:D b):Ext m D h w m D (h.put b .dead) w∧Rel P m D (h.put b .dead) w:=by
 refine Ext.rel r ?_;have dw:∀b',b'≠b→(h.put b .dead).get b'=h.get b':=λb' hn=>AH.bE h .dead (λe=>hn e.symm);have cr:∀b',live (h.put b .dead) b'→live h b':=λb' hl=>by
  by_cases e:b'=b
  ·subst e;obtain⟨x,hx,uu⟩:=hl;rw[AH.bi]at hx;cases hx;trivial
  grind[live]
 refine⟨⟨λ_ h=>h,λ_ _=>rfl,Nat.le_refl _,?_,Nat.le_refl _,?_,rfl,rfl,rfl,λb=>⟨.inl,λhb=>hb.elim id λhb=>by simp at*;omega⟩,?_⟩,⟨?_,?_,?_,?_⟩⟩
 ·intro c hc hn;refine⟨rfl,?_⟩;rintro⟨b',bV,dW,he⟩;exact hn ⟨b',bV,cr b' dW,he⟩
 ·grind
 ·grind[AH.bi]
 ·intro b' bV;by_cases e:b'=b
  ·subst e;exact⟨.dead,AH.bi h b' _,trivial,trivial⟩
  ·obtain⟨y,hy,fE,hZ⟩:=r.bG b' bV;grind
 ·intro b1 b2 h1 h2 l1 l2 he;exact r.inj b1 b2 h1 h2 (cr b1 l1) (cr b2 l2) he
 ·intro b' bV;exact r.lt b' bV
 ·rintro b' t bV hg ⟨b2,fb,n9,he⟩;by_cases e:b'=b
  ·simp_all
  ·rw[dw b' e]at hg;exact r.dv b' t bV hg ⟨b2,fb,cr b2 n9,he⟩
theorem Rel.Ef {w0:World} (r:Rel P m D h w) (b:Nat) (x:dh) (hb:D b) (pT:live h b)
  (D4:w0.heap.size=w.heap.size) (fm:∀c,c≠(m b).1→w0.heap[c]? =w.heap[c]?) (Bv:w0.os=w.os) (lB:w0.tape=w.tape) (iD:w0.output=w.output)
  (hx:cV D x) (nA:dE P m x (m b) w0) (lh:∀t,x≠.dv t:=by intro t hh;cases hh) :
  let m':Mp:=λb'=>if b'=h.nx then m b else m b'
  let D':Nat→Prop:=λb'=>b'=h.nx∨D b'
  Ext m D h w m' D' ((h.put b .dead).new x) w0∧Rel P m' D' ((h.put b .dead).new x) w0:=by
 intro m' D';refine Ext.rel r ?_;have PE:b≠h.nx:=by have:=r.lt b hb;omega
 have hm:∀b',D b'→m' b'=m b':=λb' bV=>by
  have:=r.lt b' bV;grind
 have iF:m' h.nx=m b:=by grind
 have dw:∀b',D b'→b'≠b→((h.put b .dead).new x).get b'=h.get b':=λb' bV hn=>by
  rw[AH.cg _ x (show(h.put b .dead).nx≠b' by have:=r.lt b' bV;simp;omega),AH.bE h .dead (λe=>hn e.symm)]
 have pj:((h.put b .dead).new x).get b=some .dead:=by rw[AH.cg _ x (show(h.put b .dead).nx≠b by simp;omega),AH.bi]
 have Eg:¬live ((h.put b .dead).new x) b:=by rintro⟨y,hy,lU⟩;rw[pj]at hy;cases hy;exact lU
 have cr:∀b',D b'→live ((h.put b .dead).new x) b'→live h b'∧b'≠b:=λb' bV hl=>by
  grind[live]
 refine⟨⟨λb' h=>.inr h,hm,by omega,?_,Nat.le_succ _,?_,Bv,lB,iD,λb'=>(show b'=h.nx∨D b'↔D b'∨(h.nx≤b'∧b'<h.nx+1)from⟨λhh=>hh.elim (λe=>.inr omQ) .inl,λhh=>hh.elim .inr λe=>.inl omQ⟩),?_⟩,⟨?_,?_,?_,?_⟩⟩
 ·intro c hc hn;have hcb:c≠(m b).1:=λe=>hn ⟨b,hb,pT,e.symm⟩;refine⟨fm c hcb,?_⟩;rintro⟨b',bV,dW,he⟩;rcases bV with rfl |bV
  ·grind
  ·rw[hm b' bV]at he;exact hn ⟨b',bV,(cr b' bV dW).1,he⟩
 ·intro b' bV hn;have bJ:b'≠b:=λe=>hn (e▸hb);refine⟨?_,?_⟩
  ·rw[AH.cg _ x (show(h.put b .dead).nx≠b' by simp;omega),AH.bE h .dead (λe=>bJ e.symm)]
  grind
 ·intro b' t bV hg;rcases bV with rfl |bV
  ·have rI:((h.put b .dead).new x).get h.nx=some x:=AH.bF (h.put b .dead) x;grind
  grind
 ·intro b' bV;rcases bV with rfl |bV
  ·refine⟨x,AH.bF (h.put b .dead) x,?_,hx.mono λb hb=>.inr hb⟩;rw[iF];exact nA.congr hm hx rfl
  ·by_cases e:b'=b
   ·subst e;exact⟨.dead,pj,trivial,trivial⟩
   ·obtain⟨y,hy,fE,hZ⟩:=r.bG b' bV;refine⟨y,(dw b' bV e).trans hy,?_,hZ.mono λb hb=>.inr hb⟩;rw[hm b' bV];cases y with
    |dead=>trivial
    |dv t=>exact fE.congr hm hZ (fm _ λee=>r.dv b' t bV hy ⟨b,hb,pT,ee.symm⟩)
    |_=>exact fE.congr hm hZ (fm _ λee=>e (r.inj b' b bV hb ⟨_,hy,by trivial⟩ pT ee))
 ·intro b1 b2 h1 h2 l1 l2 he;rcases h1 with rfl |h1<;>rcases h2 with rfl |h2
  ·rfl
  ·exfalso;obtain⟨q1,q2⟩:=cr b2 h2 l2;rw[iF,hm b2 h2]at he;exact q2 (r.inj b b2 hb h2 pT q1 he).symm
  ·exfalso;obtain⟨q1,q2⟩:=cr b1 h1 l1;rw[iF,hm b1 h1]at he;exact q2 (r.inj b1 b h1 hb q1 pT he)
  ·rw[hm b1 h1,hm b2 h2]at he;exact r.inj b1 b2 h1 h2 (cr b1 h1 l1).1 (cr b2 h2 l2).1 he
 ·intro b' bV;rcases bV with rfl |bV
  ·simp
  ·have:=r.lt b' bV;simp;omega
 ·rintro b1 t h1 hg ⟨b2,h2,l2,he⟩;rcases h1 with rfl |h1
  ·have rI:((h.put b .dead).new x).get h.nx=some x:=AH.bF (h.put b .dead) x;grind
  ·by_cases e:b1=b
   ·grind
   ·rw[dw b1 h1 e]at hg;rw[hm b1 h1]at he;rcases h2 with rfl |h2
    ·rw[iF]at he;exact r.dv b1 t h1 hg ⟨b,hb,pT,he⟩
    ·rw[hm b2 h2]at he;exact r.dv b1 t h1 hg ⟨b2,h2,(cr b2 h2 l2).1,he⟩
theorem Rel.heap {W:World} (R:Rel P m D h w) (hW:W.heap=w.heap):Rel P m D h W :=
 ⟨⟨λb hb=>by
  obtain⟨x,hx,hr,hd⟩:=R.bG b hb
  exact⟨x,hx,hr.congr (λ_ _=>rfl) hd (by rw[hW]),hd⟩,R.inj,R.lt,R.dv⟩,λp hp=>by
  obtain⟨g,h1,h2,h3⟩:=R.gl p hp
  exact⟨g,h1,(KK h1 h2).2 (by rw[hW]),h3⟩⟩
theorem PF {ct:CT} {cs:List AV} (mo:ct.toList=cs) {t:TypeId} {w0:World} {cap n:Nat} {rest:Array Value} (bP:bh P t=some n) (hc:cs.length≤cap*n) (hr:rest.size=cap*n-cs.length)
  (Ax:w0.heap=w.heap.push (.cells ((bj m cs).toArray++rest) t)):dE P m (.cells ct t true) (w.heap.size,cap) w0:=by
 subst mo;refine⟨rest.toList,(0,0),?_,(λhh=>by grind),(λi _=>by simp),λ_ k hk=>?_⟩
 all_goals simp_all
theorem Mn (R:Rel P m D h w) {x:AV} {sz n:Nat} {l:List AV} (hx:bD D x) (e:qk5 h sz n x l):(Builtin.firstCells sz n (cv m x)).run P w=.ok (bj m l).toArray w∧bm D l:=by
 rcases e with e |⟨b,off,len,cap,aS,c,t,o,rfl,hg,e⟩
 ·grind[NT]
 ·obtain⟨h1,h2,_⟩:=R.sd hx hg e;trivial
theorem qj8 {cl:Call} (ho:o.op=.call cl) (hc:cl.callee=.builtin .append) (hr:eX m D ρ r) (R:Rel P m D h w) (e:bC P c o.op r h fin=some (v,h')):eJ P m D h w ((execOp ρ o).run P w) v h':=by
 obtain⟨cs,hx⟩:=Xl (P:=P) (w:=w) (ρ:=ρ) ho hc;rw[ho]at e;simp only[bC,hc]at e
 split at e
 ·rename_i s x t u ts ha dJ;simp only[qC]at e;obtain⟨du,PB,e⟩:=e;have lh:(∀k,du≠.int k)∧∃el z vs vx,P.underlying t=some (.slice el)∧Up P el=some z∧r s=some vs∧r x=some vx∧xk h el z.length vs vx fin=some (v,h'):=by
   split at e
   ·grind
   ·rename_i hn;simp only[qC]at e;grind
  obtain⟨lh,el,z,vs,vx,ht,hz,si,Bz,e⟩:=lh;obtain⟨s1,s2⟩:=hr _ _ si;obtain⟨x1,x2⟩:=hr _ _ Bz;obtain⟨i,za,hi,By,rfl,pW,pU,IE,bP⟩:=Yg hz;rw[pW]at bP e;unfold xk at e;simp only[qC,jC]at e;obtain⟨n,hn,nc,hnc,sq,e⟩:=e;have sq:=zC sq;rw[CT.dR]at sq;have iF:=qwS hnc;obtain⟨new,bQ⟩:∃new,nc.toList=new:=⟨_,rfl⟩;rw[bQ]at sq iF;have hnd:bm D new:=(Mn R x2 iF).2;rw[hx,J0 ha,J0 dJ];simp only[List.map_toArray,List.map_cons,List.map_nil,s1,x1];have lf:=λ(base:Option Addr) (dK fL:Nat) (hb:cv m vs=.slice base dK fL)=>qVl (w:=w) (ty:=o.type) (ts:=ts) ht PB lh hi By pW IE hb (qjU hn) (λW hW=>(Mn (R.heap hW) x2 iF).1)
  have done:∀{z:Value} {w0:World},(Builtin.append_ (t::u::ts).toArray o.type [cv m vs,cv m vx].toArray).run P w=.ok z w0→
    (builtin .append (t::u::ts).toArray o.type cs [cv m vs,cv m vx].toArray).run P w=.ok (.value z) w0:=by
   intro z w0 hh;show(do pure (Next.value (← Builtin.append_ (t::u::ts).toArray o.type [cv m vs,cv m vx].toArray)):Sem Next).run P w=_;simp_all
  have store:∀(b off len lF:Nat) (aS:Bool) (rm:Nat) (h1:AH),vs=.slice b off len rm aS→cv m vs=.slice (some ⟨(m b).1,off,none⟩) len lF→len+n≤lF→kX h b (off+len*i.size) new=some h1→
    eJ P m D h w ((builtin .append (t::u::ts).toArray o.type cs [cv m vs,cv m vx].toArray).run P w) (.slice b off (len+n) rm aS) h1:=by
   intro b off len lF aS rm h1 Bx mI hle hw;obtain⟨a1,_⟩:=lf _ _ _ mI;subst Bx;obtain⟨w',dy,Bw,ia⟩:=R.write s2 hnd hw;refine⟨m,D,w',.inl (done ?_),Bw,ia,s2⟩;rw[a1 hle];simp only[];rw[kO,qq dy];simp only[cv,Value.slice.injEq]at mI ⊢;simp;omega
  have Az:∀(b off len lF:Nat),cv m vs=.slice (some ⟨(m b).1,off,none⟩) len lF→n=0→len≤lF→
    eJ P m D h w ((builtin .append (t::u::ts).toArray o.type cs [cv m vs,cv m vx].toArray).run P w) vs h:=by
   intro b off len lF mI lW hle;obtain⟨a1,_⟩:=lf _ _ _ mI;subst lW;have:new=[]:=iA omQ;subst this;refine⟨m,D,w,.inl (done ?_),Ext.refl ..,R,s2⟩;rw[a1 omQ,mI];rfl
  have grow:∀(b off len lF:Nat) (cD:List AV),cv m vs=.slice (some ⟨(m b).1,off,none⟩) len lF→D b→¬len+n≤lF→len+n≤67108864→(vv h b off (len*i.size)=some cD∨∃c t o,h.get b=some (.cells c t o)∧vh (len*i.size) (gg off c.toList)=some cD)→
    ∃cap rest w0,(Builtin.append_ (t::u::ts).toArray o.type [cv m vs,cv m vx].toArray).run P w=.ok (.slice (some ⟨w.heap.size,0,none⟩) (len+n) cap) w0∧
     w0.heap=w.heap.push (.cells ((bj m (cD++new)).toArray++rest) el)∧w0.os=w.os∧w0.tape=w.tape∧w0.output=w.output∧(cD++new).length≤cap*i.size∧rest.size=cap*i.size-(cD++new).length∧bm D (cD++new):=by
   intro b off len lF cD mI hb hle AA hold;obtain⟨_,a2⟩:=lf _ _ _ mI;have rd:∀{W:World},Rel P m D h W→(loadCells ⟨(m b).1,off,none⟩ (len*i.size)).run P W=.ok (bj m cD).toArray W∧bm D cD∧cD.length=len*i.size:=by
    intro W RW;rcases hold with hold |⟨c,t,o,hg,hold⟩
    ·exact RW.read hb hold
    ·exact RW.sd hb hg hold
   obtain⟨o1,o2,o3⟩:=rd R;obtain⟨cap,rest,c1,c2,c3⟩:=a2 hle AA (bj m cD).toArray (λW hW=>by rw[mI];exact(rd (R.heap hW)).1);have hl:(cD++new).length=(len+n)*i.size:=by grind
   refine⟨cap,rest,_,c3,?_,rfl,rfl,rfl,?_,?_,gC.2 ⟨o2,hnd⟩⟩
   ·simp[GQ]
   ·rw[hl];exact Nat.mul_le_mul_right _ c1
   grind[Nat.sub_mul]
  unfold vw at e;simp only[bQ]at e
  split at e
  ·--nil
   obtain⟨a1,a2⟩:=lf none 0 0 rfl;cases lW:Nat.beq n 0
   ·have oF:=gV lW;rw[lW]at e;simp only[cond_false,jC,qr]at e;obtain⟨AA,rfl,rfl⟩:=e;have AA:=zE AA;obtain⟨cap,rest,c1,c2,c3⟩:=a2 omQ omQ #[] (λW hW=>by rfl);have nC:rest.size=cap*i.size-new.length:=by rw[c2,sq,Nat.zero_add,Nat.sub_mul]
    have Eh:new.length≤cap*i.size:=by rw[sq];exact Nat.mul_le_mul_right _ omQ
    obtain⟨ex,re⟩:=R.new (.cells nc el true) _ cap (w0:={ w with drawn:=w.drawn+1,heap:=w.heap.push (.cells (#[]++(bj m new).toArray++rest) el) }) rfl rfl rfl rfl (by grind[cV])
     (PF bQ bP Eh nC aW)
    refine⟨_,_,_,.inl (done ?_),ex,re,.inl rfl⟩;grind[cv]
   ·have oF:=zC lW;subst oF;rw[lW]at e;simp only[cond_true,qr]at e;obtain⟨rfl,rfl⟩:=e;refine⟨m,D,w,.inl (done ?_),Ext.refl ..,R,trivial⟩;rw[a1 omQ];rfl
  ·rename_i b off len cap;cases hle:Nat.ble (len+n) cap
   ·have uv:=U4 hle;rw[hle]at e;simp only[cond_false,jC,qC]at e;obtain⟨AA,cD,hold,e⟩:=e;have AA:=zE AA;simp only[qr]at e;obtain⟨rfl,rfl⟩:=e;obtain⟨c',rest,w0,g1,g2,g3,g4,g5,g6,g7,g8⟩:=grow b off len cap cD rfl s2 omQ AA (.inl hold);have nD:(bif Nat.beq len 0 then nc else CT.ofList (cD++new)).toList=cD++new:=by
     cases l5:Nat.beq len 0
     ·simp[CT.aP]
     ·have h0:=zC l5;have ho:cD=[]:=iA (by have:=(R.read s2 hold).2.2;grind);grind
    obtain⟨ex,re⟩:=R.new (.cells (bif Nat.beq len 0 then nc else CT.ofList (cD++new)) el true) _ c' g2 g3 g4 g5 (by grind[cV]) (PF nD bP g6 g7 g2);refine⟨_,_,_,.inl (done ?_),ex,re,.inl rfl⟩;grind[cv]
   ·have uv:=zE hle;rw[hle]at e;simp only[cond_true]at e;cases lW:Nat.beq n 0
    ·rw[lW]at e;simp only[cond_false,qC,qr]at e;obtain⟨h1,hw,rfl,rfl⟩:=e;exact store b off len cap false cap h1 rfl rfl uv hw
    ·have oF:=zC lW;rw[lW]at e;simp only[cond_true,qr]at e;obtain⟨rfl,rfl⟩:=e;exact Az b off len cap rfl oF omQ
  ·rename_i b off len i0
   split at e
   ·rename_i cells e' hg;simp only[jC,Bool.and_eq_true]at e;obtain⟨⟨f1,f2,f3,f4⟩,e⟩:=e;have f1:=zE f1;have f2:=zC f2;have f3:=zC f3;have f4:=zE f4;rw[CT.dR]at f4;subst f3;obtain⟨rest,fr,k1,k2,k3,k4,k5⟩:=R.cells s2 hg;obtain⟨k4a,k4b⟩:=k4 rfl _ bP;have Ec:i0+len≤(m b).2:=by
     have:(i0+len)*i.size≤(m b).2*i.size:=by grind
     exact Nat.le_of_mul_le_mul_right this f1
    cases lW:Nat.beq n 0
    ·have oF:=gV lW;rw[lW]at e;simp only[cond_false]at e;cases dY:Nat.ble (off+(len+n)*i.size) cells.len
     ·have BA:=U4 dY;rw[CT.dR]at BA;rw[dY]at e;simp only[cond_false,jC,qC,Bool.and_eq_true,qr]at e;obtain⟨⟨g0,gs,pn⟩,sr,Ei,rfl,rfl⟩:=e;have hold:=CT.oC Ei;obtain⟨cD,hco⟩:∃cD,sr.toList=cD:=⟨_,rfl⟩;rw[hco]at hold;have iH:(sr.lf new).toList=cD++new:=by rw[CT.r8,hco]
      have g0:=zC g0;have gs:=zE gs;subst g0;simp only[Nat.zero_mul]at f2;subst f2;by_cases hle:len+n≤(m b).2
      ·--it grows where it lies
       have hlr:(len+n)*i.size≤(m b).2*i.size:=Nat.mul_le_mul_right _ hle;have hln:(len+n)*i.size=len*i.size+n*i.size:=Nat.add_mul ..;obtain⟨w',q1,q2⟩:=Yy (P:=P) (0+len*i.size) (bj m new) 0 w _ k1 (by simp;omega) (W8 m pn) (by simpa using k3);obtain⟨a1,_⟩:=lf _ _ _ rfl;have po:cD=cells.toList.take (len*i.size)∧len*i.size≤cells.toList.length:=kc hold;obtain⟨o1,o2⟩:=po;have eu:cD.length=len*i.size:=by rw[o1,List.length_take];omega
       have rJ:cV D (.cells (sr.lf new) el true):=by simp only[cV,iH];rw[o1];exact gC.2 ⟨XV _ k5,hnd⟩
       obtain⟨ex,re⟩:=R.Ef b (.cells (sr.lf new) el true) s2 (W9 hg trivial) q2.size q2.other q2.os q2.tape q2.output rJ (by
        simp only[dE,iH];refine⟨(bj m cells.toList++rest).drop ((len+n)*i.size),fr,?_,(λhh=>by grind),?_,λ_ k hk=>?_⟩
        ·rw[q2.at_]
         congr 2
         have e1:(bj m cells.toList++rest).take (0+len*i.size+0)=bj m cD:=by rw[o1,xg,xg,List.take_append_of_le_length (by grind)];simp
         grind[bj,eS,GQ]
        ·intro j hj;apply k3 j;simp only[List.length_append,List.length_drop,eS,eu,sq]at hj;omega
        ·rw[bP]at hk;cases hk;simp;omega)
       refine⟨_,_,w',.inl (done ?_),ex,re,.inl rfl⟩;rw[a1 (by grind)];simp only[];rw[kO,qq q1];simp[cv]
      ·obtain⟨c',rest',w0,g1,g2,g3,g4,g5,g6,g7,g8⟩:=grow b 0 len ((m b).2-0) cD rfl s2 omQ gs (.inr ⟨_,_,_,hg,hold⟩);obtain⟨ex1,re1⟩:=R.kill b s2;obtain⟨ex,re⟩:=re1.new (.cells (sr.lf new) _ true) _ c' g2 g3 g4 g5 (by grind[cV]) (PF iH bP g6 g7 g2);refine⟨_,_,_,.inl (done ?_),ex1.trans ex,re,.inl rfl⟩;rw[g1];simp[cv]
     ·have BA:=zE dY;rw[CT.dR]at BA;rw[dY]at e;simp only[cond_true,qC,qr]at e;obtain⟨h1,hw,rfl,rfl⟩:=e;refine store b off len ((m b).2-i0) true i0 h1 rfl rfl ?_ hw;have:(i0+(len+n))*i.size≤(m b).2*i.size:=by grind
      have:=Nat.le_of_mul_le_mul_right this f1;omega
    ·have oF:=zC lW;rw[lW]at e;simp only[cond_true,qr]at e;obtain⟨rfl,rfl⟩:=e;exact Az b off len ((m b).2-i0) rfl oF omQ
   grind
  grind
 grind
end Go.Ae
namespace Go.Ae
open Go
variable {P:Program} {m:Mp} {D:Nat→Prop} {h h':AH} {w:World} {c:CV} {ρ:Operand→Value} {r:Operand→Option AV} {o:Oper} {v:AV}
theorem qKt {l:List AV} {s:List UInt8} (e:Jo l=some s):∃ns:List Int,bj m l=ns.map (Value.int .u8)∧∀acc:ByteArray,ns.foldl (λr n=>r.push (UInt8.ofNat n.toNat)) acc=⟨acc.data++s.toArray⟩:=by
 induction l generalizing s with
 |nil=>simp[Jo]at e;subst e;exact⟨[],rfl,λacc=>by simp⟩
 |cons a l ih=>
  unfold Jo at e
  split at e
  ·grind
  ·rename_i n r oG;cases oG;simp only[Option.bind_eq_some_iff]at e;obtain⟨t,ht,e⟩:=e;cases e;obtain⟨ns,h1,h2⟩:=ih ht;refine⟨.ofNat n::ns,by grind[bj,cv],λacc=>?_⟩;simp_all
  grind
theorem jZm {s d:TypeId} {x:Operand} (ho:o.op=.convert s d x) (hr:eX m D ρ r) (R:Rel P m D h w) (e:bC P c o.op r h fin=some (v,h')):eJ P m D h w ((execOp ρ o).run P w) v h':=by
 rw[ho]at e;simp only[bC,qC]at e;obtain⟨a,ha,ds,Ej,dd,BB,e⟩:=e;obtain⟨a1,a2⟩:=hr _ _ ha;simp only[execOp,ho,a1];cases dd<;>simp only[reduceCtorEq]at e
 case int k=>
  cases ds<;>simp only[reduceCtorEq]at e
  unfold gt at e
  split at e
  ·simp only[qr]at e;obtain⟨rfl,rfl⟩:=e;refine zM R ?_ trivial;unfold convert;rw[qq (Ae.run_underlying Ej),qq (Ae.run_underlying BB)];simp only[cv,Qj];rfl
  grind
 case string=>
  cases ds<;>simp only[reduceCtorEq]at e
  case string=>
   unfold YI at e
   split at e
   ·simp only[qr]at e;obtain⟨rfl,rfl⟩:=e;refine zM R ?_ trivial;simp_all[convert,Ae.run_underlying,cv]
   grind
  case slice el=>
   simp only[qC]at e;obtain⟨de,IG,e⟩:=e;have hu8:de=.int .u8∧KZ h a (λz=>fin z h)=some (v,h'):=by
    grind
   obtain⟨rfl,e2⟩:=hu8;unfold KZ at e2
   split at e2
   ·simp only[qr]at e2;obtain⟨rfl,rfl⟩:=e2;refine zM R ?_ trivial;unfold convert;rw[qq (Ae.run_underlying Ej),qq (Ae.run_underlying BB)];simp only[cv];rw[qq (Ae.run_underlying IG)];rfl
   ·rename_i b off len cp aS;simp only[qC,qr]at e2;obtain⟨cs,ph,q,hq,rfl,rfl⟩:=e2;obtain⟨r1,r2,r3⟩:=R.read a2 ph;obtain⟨ns,n1,n2⟩:=qKt (m:=m) hq;refine zM R ?_ trivial;obtain⟨cc,dS⟩:∃cc,cv m (.slice b off len cp aS)=.slice (some ⟨(m b).1,off,none⟩) len cc:=⟨_,rfl⟩;rw[dS];rw[run_convert_bytes_string w s d el _ _ _ Ej IG BB];rw[run_bytesToString w _ len _ ns (by grind),n2];simp[cv]
   grind
end Go.Ae
namespace Go.Ae
open Go
end Go.Ae
namespace Go.Ae
open Go
variable {P:Program} {m:Mp} {D:Nat→Prop} {h h':AH} {w:World} {c:CV} {ρ:Operand→Value} {r:Operand→Option AV} {o:Oper} {v:AV}
theorem jX3 (Ek:∀cl f,o.op=.call cl→cl.callee≠.value f) (lh:∀cl x n,o.op=.call cl→cl.callee≠.invoke x n) (hr:eX m D ρ r) (R:Rel P m D h w) (e:cO P c o.op r h=some (v,h')):eJ P m D h w ((execOp ρ o).run P w) v h':=by
 have e:bC P c o.op r h fin=some (v,h'):=e;cases ho:o.op with
 |move x=>exact jJR ho hr R e
 |assign x=>exact qjD ho hr R e
 |pick x y z=>exact jQA ho hr R e
 |alloc t=>exact qxi ho R e
 |box t x=>exact jVB ho hr R e
 |build t p=>exact qkB ho hr R e
 |buildSlice t n p=>exact qjp ho hr R e
 |load t x=>exact jJH ho hr R e
 |store t x y=>exact qkh ho hr R e
 |nilCheck x=>exact jV5 ho hr R e
 |binOp op t x y u=>exact jKO ho hr R e
 |unOp op t x=>exact D9 ho hr R e
 |convert s d x=>exact jZm ho hr R e
 |makeInterface t x=>exact qvr ho hr R e
 |makeFunc f x y=>exact qZa ho hr R e
 |makeSlice t x y=>exact jXC ho hr R e
 |slice t x lo hi mx=>exact qv2 ho hr R e
 |fieldAddr t x f=>exact qkl ho hr R e
 |field t x f=>exact qyo ho hr R e
 |indexAddr t x i=>exact qQd ho hr R e
 |index t x i=>exact qk4 ho hr R e
 |typeAssert x xt t ok=>exact qza ho hr R e
 |extract x i=>exact qK5 ho hr R e
 |call cl=>
  cases hc:cl.callee with
  |value f=>simp_all
  |invoke a b=>simp_all
  |builtin b=>
   cases b with
   |len=>exact jKT ho hc hr R e
   |min=>exact jXs (mx:=false) ho hc hr R e
   |max=>exact jXs (mx:=true) ho hc hr R e
   |append=>exact qj8 ho hc hr R e
   |_=>rw[ho]at e;simp only[bC,hc,reduceCtorEq]at e
 |_=>rw[ho]at e;simp only[bC,reduceCtorEq]at e
end Go.Ae
namespace Go.Ae
open Go
variable {P:Program} {m:Mp} {D:Nat→Prop} {h h':AH} {w:World} {c:CV} {o:Oper} {v:AV}
def FW (rd:Option Nat):Fence:={ Fence.wide with round:=rd }
def Jq (P:Program) (m:Mp) (D:Nat→Prop) (h:AH) (w:World) (r:AV×AH):Ending→World→Prop :=
 λe w'=>∃m' D',e=.returned (cv m' r.1)∧Ext m D h w m' D' r.2 w'∧Rel P m' D' r.2 w'∧bD D' r.1
def IH (P:Program) (m:Mp) (D:Nat→Prop) (h:AH) (w:World) (args:List AV) (r:AV×AH):AV→Prop
 | .fn f first cap=>(∀as W,(callFunc f as).run P W=.ok (.enter f as) W)∧∀n,CallsIn Fence.wide n P f (bj m (first++args++cap)).toArray w (Jq P m D h w r)
 | .yield l=>∃f' tmps assign body,(Instr.yield (m l).1 (bj m args).toArray).run P w=.ok (.round (m l).1 f' tmps assign body) w∧∀n,RoundIn Fence.wide n P (m l).1 f' tmps assign body w (Jq P m D h w r)
 |_=>False
def vJ (P:Program) (c:CV):Prop :=
 ∀vf args h r,c vf args h=some r→∀m D w,Rel P m D h w→bD D vf→bm D args→IH P m D h w args r vf
theorem qXc (m:Mp):cv m .undef=undef:=rfl
theorem qxu {l:List (Nat×Nat)} {t f:Nat} (e:VB l t=some f):(t,f)∈l:=by
 induction l with
 |nil=>cases e
 |cons p l ih=>
  have e':Bool.rec (motive:=λ_=>Option Nat) (VB l t) (some p.2) (Nat.beq p.1 t)=some f:=e;cases hb:Nat.beq p.1 t
  ·simp_all
  ·rw[hb]at e';have:=zC hb;grind
theorem qwM {name:String} {t f:Nat}:∀{L:List Nat},(t,f)∈DO P name L→Iq P name t=some f:=by
 intro L
 induction L with
 |nil=>nofun
 |cons a L ih=>
  intro h;unfold DO at h
  grind
theorem qGE {name:String} {t f:Nat} (e:Iq P name t=some f) (n:Nat) (x:Value) (w:World):(method (n+1) t x name).run P w=.ok (f,x) w:=by
 simp only[Iq,Option.bind_eq_some_iff]at e;obtain⟨i,hi,mm,hm,e⟩:=e;rw[jC]at e;obtain⟨hp,e⟩:=e;simp only[Option.bind_eq_some_iff]at e;obtain⟨g,hg,e⟩:=e;obtain⟨gf,gb⟩:=g;rw[jC]at e;obtain⟨hb,e⟩:=e;simp only at hb;subst hb;simp only[Option.bind_eq_some_iff]at e;obtain⟨d,hd,e⟩:=e
 split at e
 ·rename_i el;cases e;have PG:mm.path= #[]:=by grind
  have hf:i.methods.find? (·.name==name)=some mm:=by grind
  unfold method;rw [qq (run_typeInfo hi)];simp only [hf, PG, hg];rw [qq (show (follow (#[] : Array FieldStep).toList t (.val x)).run P w = .ok (t, .val x) w from rfl)];simp only [];have hr : (receiverAt t (.val x) true (if (#[] : Array FieldStep).isEmpty = true then some ((name.splitOn ".").getLastD name) else none)).run P w = .ok x w := by unfold receiverAt;rw [qq (run_underlying hd)];rfl
  simp_all
 grind
theorem El (hc:vJ P c) {rd:Option Nat} {n:Nat} {a:Act} {r:Operand→Option AV} (hr:eX m D a.eval r) (R:Rel P m D h w) (e:cO P c o.op r h=some (v,h'))
  {next:Act→World→Prop} {Q:Exit→Act→World→Prop}
  (hn:∀m' D' w',Ext m D h w m' D' h' w'→Rel P m' D' h' w'→bD D' v→next (a.put o.dst (cv m' v)) w'):o.wpIn (FW rd) n P a w next Q:=by
 have hnd:∀cl,o.op≠.defer cl:=by intro cl fF;simp_all
 refine⟨λ_ _=>trivial,?_⟩;rw[Oper.semAt_eq _ _ _ hnd];by_cases hv:∃cl f,o.op=.call cl∧cl.callee=.value f
 ·obtain⟨cl,f,ho,fM⟩:=hv;unfold cO at e;rw[ho]at e;simp only[bC,fM,qC]at e;obtain⟨vf,AB,va,su,e⟩:=e;obtain⟨f1,f2⟩:=hr _ _ AB;obtain⟨v1,v2⟩:=JA hr su;rw[JO]at e
  split at e
  ·rename_i q hq;simp only[qr]at e;obtain⟨rfl,rfl⟩:=e;have dX:=hc vf va h q hq m D w R f2 v2;have lE:cl.args.map a.eval=(bj m va).toArray:=by grind
   cases vf<;>simp only[IH]at dX
   case fn f' first cap=>
    obtain⟨k1,k2⟩:=dX;have dy:(execOp a.eval o).run P w=.ok (.enter f' (bj m (first++va++cap)).toArray) w:=by
     simp only[execOp,ho];have h1:(resolve a.eval cl o.type).run P w=.ok { target:=.fn (.func f') (bj m cap).toArray,args:=(bj m first).toArray++(bj m va).toArray } w:=by unfold resolve;rw[fM];simp only[f1,cv,lE];rfl
     grind[qq,invoke,bj,callFunc,GQ]
    rw[dy];refine⟨(λhh=>by cases hh),?_⟩;refine CallsIn.mono (show CallsIn (FW rd) (n-1) P f' _ w _ from k2 (n-1)) ?_;rintro ee w' ⟨m',D',rfl,ex,re,hd⟩;grind
   case yield l=>
    obtain⟨f',tmps,assign,body,k1,k2⟩:=dX;have dy:(execOp a.eval o).run P w=.ok (.round (m l).1 f' tmps assign body) w:=by
     simp only[execOp,ho];have h1:(resolve a.eval cl o.type).run P w=.ok { target:=.fn (.yield (m l).1) #[],args:=(bj m va).toArray } w:=by simp_all[resolve,cv,Deferred.ofValue]
     rw[qq h1];exact k1
    rw[dy];refine⟨(λhh=>by cases hh),?_⟩;refine RoundIn.mono (show RoundIn (FW rd) (n-1) P _ _ _ _ _ w _ from k2 (n-1)) ?_;rintro ee w' ⟨m',D',rfl,ex,re,hd⟩;grind
  grind
 ·have Ek:∀cl f,o.op=.call cl→cl.callee≠.value f:=λcl f h1 h2=>hv ⟨cl,f,h1,h2⟩;by_cases hi:∃cl x name,o.op=.call cl∧cl.callee=.invoke x name
  ·obtain⟨cl,x,name,ho,fM⟩:=hi;unfold cO at e;rw[ho]at e;simp only[bC,fM,qC]at e;obtain⟨vx,Bz,va,su,e⟩:=e;obtain⟨f1,f2⟩:=hr _ _ Bz;obtain⟨v1,v2⟩:=JA hr su;unfold vV at e
   split at e
   ·rename_i t y;cases hf:VB (Pg P name) t with
    |none=>simp_all
    |some f=>
     rw[hf]at e;simp only[JO]at e
     split at e
     ·rename_i q hq;simp only[qr]at e;obtain⟨rfl,rfl⟩:=e;have dX:=hc (.fn f [] []) (y::va) h q hq m D w R ⟨trivial,trivial⟩ ⟨f2,v2⟩;obtain⟨k1,k2⟩:=dX;have lE:cl.args.map a.eval=(bj m va).toArray:=by grind
      have dy:(execOp a.eval o).run P w=.ok (.enter f (bj m (y::va)).toArray) w:=by
       simp only[execOp,ho];have h1:(resolve a.eval cl o.type).run P w=.ok { target:=.fn (.method name) #[],args:=#[.iface t (cv m y)]++(bj m va).toArray } w:=by simp_all[resolve,cv]
       rw[qq h1];show(invoke (.fn (.method name) #[]) (#[.iface t (cv m y)]++(bj m va).toArray)).run P w=_;unfold invoke;simp only[Array.getElem?_append,List.size_toArray,List.length_cons,List.length_nil,Nat.zero_add,Nat.lt_succ_self,if_true];show(callMethod (.iface t (cv m y)) name _).run P w=_;unfold callMethod;simp only[];rw[qq (show(program).run P w=.ok P w from rfl)];have Em:(method (P.types.size+Made.depth) t (cv m y) name).run P w=.ok (f,cv m y) w:=qGE (qwM (qxu hf)) _ _ _;grind[qq,bj,List.take_of_length_le]
      rw[dy];refine⟨(λhh=>by cases hh),?_⟩;have k3:=k2 (n-1);rw[List.nil_append,List.append_nil]at k3;refine CallsIn.mono (show CallsIn (FW rd) (n-1) P f _ w _ from k3) ?_;rintro ee w' ⟨m',D',rfl,ex,re,hd⟩;grind
     grind
   grind
  have lh:∀cl x n,o.op=.call cl→cl.callee≠.invoke x n:=λcl x n h1 h2=>hi ⟨cl,x,n,h1,h2⟩;obtain⟨m',D',w',cS,ex,re,hd⟩:=jX3 (o:=o) Ek lh hr R e;rcases cS with cS |⟨cS,PH⟩
  ·rw[cS];exact hn m' D' w' ex re hd
  ·rw[cS];have:=hn m' D' w' ex re hd;rw[PH,qXc]at this;trivial
end Go.Ae
namespace Go.Ae
open Go
variable {P:Program} {m:Mp} {D:Nat→Prop} {h h':AH} {w:World} {c:CV} {o:Oper} {v:AV}
structure eU (m:Mp) (D:Nat→Prop) (n:Nat) (a:Act) (tm:PT AV):Prop where
  size:n≤a.tmps.size
  at_:∀t v,tm.get t=some v→a.tmps[t]? =some (cv m v)∧bD D v
theorem eU.ev {n:Nat} {a:Act} {tm:PT AV} (T:eU m D n a tm):eX m D a.eval (ev tm):=by
 intro x v e;cases x with
 |tmp t=>simp only[Ae.ev]at e;obtain⟨h1,h2⟩:=T.at_ t v e;simp_all[Act.eval,Array.getD_eq_getD_getElem?,Option.getD_some]
 |const k=>simp only[Ae.ev]at e;obtain⟨h1,h2⟩:=XJ (m:=m) (D:=D) e;exact⟨h1.symm,h2⟩
 |global g=>trivial
 |func f=>simp only[Ae.ev,Option.some.injEq]at e;subst e;trivial
theorem eU.mono {m':Mp} {D':Nat→Prop} {w':World} {n:Nat} {a:Act} {tm:PT AV} (T:eU m D n a tm) (e:Ext m D h w m' D' h' w'):eU m' D' n a tm :=
 ⟨T.size,λt v hv=>by
  obtain⟨h1,h2⟩:=T.at_ t v hv
  exact⟨by rw[e.cv h2];grind,e.bD h2⟩⟩
theorem eU.put {n:Nat} {a:Act} {tm:PT AV} (T:eU m D n a tm) {dst:Option Tmp} {k:PT AV→R} {r:AV×AH} (hv:bD D v) (e:NE n tm dst v k=some r) :
  ∃tm',k tm'=some r∧eU m D n (a.put dst (cv m v)) tm':=by
 cases dst with
 |none=>exact⟨tm,e,T⟩
 |some d=>
  simp only[NE,yq]at e;obtain⟨hd,e⟩:=e;have hd:=zE hd;refine⟨_,e,by simp[Act.put];exact T.size,?_⟩;intro t u hu;rw[PT.bZ]at hu;by_cases ht:d=t
  ·subst ht;rw[iJ rfl]at hu;cases hu;refine⟨?_,hv⟩;have:=T.size;grind[Act.put,Array.getElem?_setIfInBounds_self]
  ·rw[iQ ht]at hu;obtain⟨h1,h2⟩:=T.at_ t u hu;grind[Act.put,Array.getElem?_setIfInBounds_ne]
theorem kD (a:Act) (dst:Option Tmp) (x:Value):(a.put dst x).defers=a.defers:=by cases dst<;>rfl
structure AD (P:Program) (m:Mp) (D:Nat→Prop) (h:AH) (w:World) (n:Nat) (ds:List Deferred) (a:Act) (tm:PT AV) (m':Mp) (D':Nat→Prop) (h':AH) (w':World):Prop where
  ext:Ext m D h w m' D' h' w'
  rel:Rel P m' D' h' w'
  tm:eU m' D' n a tm
  defers:a.defers=ds
theorem Vq {ops:Array Oper} {a:Act} {dst:Option Tmp} {x:Value} {g:Nat} {p:Oper} {d:Tmp} (hp:ops[g]? =some p) (hd:p.dst=some d) (bJ:dst≠some d) :
  yielded ops (a.put dst x).tmps g=yielded ops a.tmps g:=by
 unfold yielded;simp only[hp,Option.bind_some,hd];cases dst with
 |none=>rfl
 |some t=>grind[Act.put,Array.getElem?_setIfInBounds_ne]
theorem Gx {d:Nat} {l:List Oper} (hw:writes d l=false):∀o∈l,o.dst≠some d:=by
 induction l with
 |nil=>simp
 |cons x l ih=>
  simp only[writes,Bool.or_eq_false_iff]at hw;intro o ho;rcases List.mem_cons.1 ho with rfl |ho
  ·intro e;simp_all
  grind
end Go.Ae
