/- The abstract executor of the program's form in Lean, shown sound: new blocks, cuts, appends, copies, conversions, ranges; every operation; calls. -/
import Derived.Test.YtbiljkdgeekpbacGreatDoorMachineOneAe2
import Derived.Laws.BytesString
namespace Go.Ae
open Go
variable {P:Program} {m:Mp} {D:Nat→Prop} {h h':AH} {w:World} {c:CV} {ρ:Operand→Value} {r:Operand→Option AV} {o:Oper} {v:AV}
theorem MG (R:Rel P m D h w) {s:Sem Value} {b:Blk} {ob_:Obj} {room:Nat} {z:AV} {w0:World}
  (hs:s.run P w=.ok (cv (λx=>if x=h.nx then(w.heap.size,room)else m x) z) w0)
  (hw0:w0.heap=w.heap.push ob_) (hos:w0.os=w.os) (htape:w0.tape=w.tape) (hout:w0.output=w.output)
  (hb:inDB D b) (hbr:BlkR P m b (w.heap.size,room) w0) (hz:inD (λx=>x=h.nx∨D x) z) (hni:∀t,b≠.inp t:=by intro t hh;cases hh) :
  OpR P m D h w ((do pure (Next.value (← s)):Sem Next).run P w) z (h.new b):=by
 obtain⟨e,r'⟩:=R.new b ob_ room hw0 hos htape hout hb hbr hni;exact⟨_,_,w0,.inl (by rw[qY hs];rfl),e,r',hz⟩
theorem wS (t:TypeId) (cs:Array Value):(newRow t cs).run P w=.ok ⟨w.heap.size,0,none⟩ { w with heap:=w.heap.push (.cells cs t) }:=rfl
theorem Oa {ct:CT} {cs:List AV} {t:TypeId} (hct:ct.toList=cs) (w0:World) (hw0:w0.heap=w.heap.push (.cells (cvs m cs).toArray t)):BlkR P m (.cells ct t false) (w.heap.size,0) w0:=by refine⟨[],(0,0),?_,λ_=>rfl,λi _=>by simp,λh=>by cases h⟩;rw[hw0,hct];simp
theorem qY2 (R:Rel P m D h w) {x z:AV} {t:TypeId} (hx:inD D x) (e:gi h t x fin=some (z,h')) :
  OpR P m D h w ((do pure (Next.value (← (do pure (.pointer (some (← newVar t (cv m x)))):Sem Value))):Sem Next).run P w) z h':=by
 unfold gi at e;simp only[jY,qU]at e;obtain⟨_,rfl,rfl⟩:=e;refine MG R (w0:={ w with heap:=w.heap.push (.cells (cvs m x.cells).toArray t) }) (room:=0) ?_ rfl rfl rfl rfl (by simp only[inDB,CT.ofList_ok];exact w5 hx) (Oa (CT.ofList_ok _) _ rfl) (.inl rfl);unfold newVar;rw[gp,qY (wS t _)];simp[cv]
theorem qqT {t:TypeId} (ho:o.op=.alloc t) (R:Rel P m D h w) (e:opK P c o.op r h fin=some (v,h')):OpR P m D h w ((execOp ρ o).run P w) v h':=by
 rw[ho]at e;simp only[opK,qH]at e;obtain⟨z,hz,e⟩:=e;obtain⟨z1,z2⟩:=x7 (w:=w) (m:=m) (D:=D) hz;have:=qY2 R z2 e;simp only[execOp,ho];have e2:(Instr.alloc t true (.tuple #[])).run P w=(do pure (.pointer (some (← newVar t (cv m z)))):Sem Value).run P w:=by unfold Instr.alloc;rw[qY z1]
 have e3:(do pure (Next.value (← Instr.alloc t true (.tuple #[]))):Sem Next).run P w=(do pure (Next.value (← (do pure (.pointer (some (← newVar t (cv m z)))):Sem Value))):Sem Next).run P w:=by show(Sem.bind _ _).run P w=(Sem.bind _ _).run P w;rw[KH,KH,e2]
 rw[e3];exact this
theorem jQP {t:TypeId} {x:Operand} (ho:o.op=.box t x) (hr:OpV m D ρ r) (R:Rel P m D h w) (e:opK P c o.op r h fin=some (v,h')):OpR P m D h w ((execOp ρ o).run P w) v h':=by rw[ho]at e;simp only[opK,qH]at e;obtain⟨a,ha,e⟩:=e;obtain⟨a1,a2⟩:=hr _ _ ha;have:=qY2 R a2 e;simp only[execOp,ho,a1];exact this
theorem wJ {cl:Call} {b:Builtin} (ho:o.op=.call cl) (hc:cl.callee=.builtin b) :
  ∃cs,(execOp ρ o).run P w=(builtin b cl.argTypes o.type cs (cl.args.map ρ)).run P w:=by
 refine⟨cl.args.map fun | .const _=>true |_=>false,?_⟩;simp only[execOp,ho];have h1:(resolve ρ cl o.type).run P w=.ok { target:=.builtin b cl.argTypes o.type (cl.args.map fun | .const _=>true |_=>false),args:=cl.args.map ρ } w:=by unfold resolve;rw[hc];rfl
 rw[qY h1];rfl
theorem yh {α:Type} {a:Array α} {l:List α} (h:a.toList=l):a=l.toArray:=by cases a;simp at h;subst h;rfl
theorem qy1 {cl:Call} (ho:o.op=.call cl) (hc:cl.callee=.builtin .len) (hr:OpV m D ρ r) (R:Rel P m D h w) (e:opK P c o.op r h fin=some (v,h')):OpR P m D h w ((execOp ρ o).run P w) v h':=by
 obtain⟨cs,hx⟩:=wJ (P:=P) (w:=w) (ρ:=ρ) ho hc;rw[ho]at e;simp only[opK,hc]at e
 split at e
 ·rename_i x xs t ts ha ht;simp only[qH]at e;obtain⟨a,hax,d,hd,e⟩:=e;obtain⟨a1,a2⟩:=hr _ _ hax;rw[hx,yh ha,yh ht]
  have hrun:∀z,(∀u,P.underlying t=some u→(match u,cv m a with
    | .string,.string s=>(pure (goInt s.size):Sem Value)
    | .array n _,_=>pure (goInt n)
    | .pointer arr,_=>do
     let .array n _ ← underlying arr | stuck "len: pointer to array expected"
     pure (goInt n)
    | .slice _,.slice _ n _=>pure (goInt n)
    | .map _ _,.map none | .chan _ _,.chan none=>pure (goInt 0)
    | .map _ _,.map (some r)=>do
     let .map entries _ ← getObj r | stuck "len: map expected"
     pure (goInt entries.size)
    | .chan _ _,.chan (some r)=>do
     let .chan _ buf _ _ _ timer ← getObj r | stuck "len: channel expected"
     pure (goInt (if timer then 0 else buf.size))
    | _, _ => stuck "len: string, array, pointer to array, slice, map or channel expected").run P w = .ok z w) →
    (Builtin.len_ (t::ts).toArray o.type ((x::xs).toArray.map ρ)).run P w=.ok z w:=by
   intro z hz;unfold Builtin.len_;simp only[List.getElem?_toArray,List.getElem?_cons_zero,List.map_toArray,List.map_cons,a1];rw[qY (Ae.run_underlying hd)];exact hz d hd
  have fin':∀n:Nat,v=.int .i64 (.ofNat n)→h=h'→(Builtin.len_ (t::ts).toArray o.type ((x::xs).toArray.map ρ)).run P w=.ok (goInt n) w→
    OpR P m D h w ((builtin .len (t::ts).toArray o.type cs ((x::xs).toArray.map ρ)).run P w) v h':=by
   rintro n rfl rfl hl;exact jn R hl trivial
  cases d<;>simp only[reduceCtorEq]at e
  case string=>
   unfold Qu at e
   split at e
   ·rename_i q;simp only[qU]at e;obtain⟨rfl,rfl⟩:=e;refine fin' _ rfl rfl (hrun _ λu hu=>?_);rw[hd]at hu;cases hu;simp only[cv];show Result.ok (goInt (ByteArray.mk q.toArray).size) w=_;simp[ByteArray.size]
   ·cases e
  case array n el=>simp only[qU]at e;obtain⟨rfl,rfl⟩:=e;refine fin' _ rfl rfl (hrun _ λu hu=>?_);rw[hd]at hu;cases hu;rfl
  case slice el=>
   unfold kF at e
   split at e
   ·simp only[qU]at e;obtain⟨rfl,rfl⟩:=e;refine fin' _ rfl rfl (hrun _ λu hu=>?_);rw[hd]at hu;cases hu;rfl
   ·simp only[qU]at e;obtain⟨rfl,rfl⟩:=e;refine fin' 0 rfl rfl (hrun _ λu hu=>?_);rw[hd]at hu;cases hu;rfl
   ·simp only[qU]at e;obtain⟨rfl,rfl⟩:=e;refine fin' 0 rfl rfl (hrun _ λu hu=>?_);rw[hd]at hu;cases hu;rfl
   ·simp only[qU]at e;obtain⟨rfl,rfl⟩:=e;refine fin' 0 rfl rfl (hrun _ λu hu=>?_);rw[hd]at hu;cases hu;rfl
   ·cases e
  case map kt et=>
   unfold Uj at e
   split at e
   ·rename_i b
    split at e
    ·rename_i l q hg;simp only[qU]at e;obtain⟨rfl,rfl⟩:=e;obtain⟨x',hx',hbr,_⟩:=R.blk b a2;rw[hg]at hx';cases hx';have hheap:w.heap[(m b).1]? =some (.map (l.map zr).toArray q):=hbr;refine fin' l.length rfl rfl (hrun _ λu hu=>?_);rw[hd]at hu;cases hu;simp only[cv];rw[qY (show(getObj (m b).1).run P w=.ok (.map (l.map zr).toArray q) w by simp only[getObj,Sem.run,hheap])];show Result.ok (goInt ((l.map zr).toArray.size:Nat)) w=_;simp
    ·cases e
   ·cases e
 ·cases e
theorem qgU {mx:Bool} {a b z:AV} (e:mm2 mx a b=some z):((match mx with |true=>Builtin.max2 |false=>Builtin.min2) (cv m a) (cv m b)).run P w=.ok (cv m z) w∧VU z=true:=by
 unfold mm2 at e
 split at e
 ·rename_i k x k' y;rw[jY]at e;obtain⟨hk,e⟩:=e;have hk:k=k':=by simpa using hk
  subst hk;simp only[Option.some.injEq]at e;subst e;cases mx
  ·simp only[cond_false,Vz,cv];refine⟨?_,rfl⟩;simp only[Builtin.min2,gJ];by_cases hh:y<x<;>simp[hh]
  ·simp only[cond_true,Vz,cv];refine⟨?_,rfl⟩;simp only[Builtin.max2,gJ];by_cases hh:y>x
   ·have:x<y:=hh;simp[hh]
   ·have:¬x<y:=hh;simp[hh]
 ·cases e
theorem qvN {mx:Bool} {l:List AV} {a z:AV} (ha:VU a=true) (e:mmL mx a l=some z) :
  ((cvs m l).foldlM (match mx with |true=>Builtin.max2 |false=>Builtin.min2) (cv m a)).run P w=.ok (cv m z) w∧VU z=true:=by
 induction l generalizing a with
 |nil=>simp[mmL]at e;subst e;exact⟨rfl,ha⟩
 |cons b l ih=>simp only[mmL,Option.bind_eq_some_iff]at e;obtain⟨y,hy,e⟩:=e;obtain⟨y1,y2⟩:=qgU (P:=P) (m:=m) (w:=w) hy;obtain⟨z1,z2⟩:=ih y2 e;refine⟨?_,z2⟩;simp only[cvs,List.foldlM_cons];rw[qY y1];exact z1
theorem qyS {cl:Call} {mx:Bool} (ho:o.op=.call cl) (hc:cl.callee=.builtin (match mx with |true=>.max |false=>.min)) (hr:OpV m D ρ r) (R:Rel P m D h w) (e:opK P c o.op r h fin=some (v,h')):OpR P m D h w ((execOp ρ o).run P w) v h':=by
 obtain⟨cs,hx⟩:=wJ (P:=P) (w:=w) (ρ:=ρ) ho hc;rw[ho]at e;have e':(ob (wV r cl.args.toList) λl=>pMM mx l λz=>fin z h)=some (v,h'):=by
  cases mx<;>simpa only[opK,hc]using e
 simp only[qH]at e';obtain⟨l,hl,e⟩:=e';obtain⟨l1,l2⟩:=QD hr hl;unfold pMM at e
 split at e
 ·rename_i a q;simp only[jY,qH,qU]at e;obtain⟨hi,z,hz,rfl,rfl⟩:=e;obtain⟨z1,z2⟩:=qvN (P:=P) (m:=m) (w:=w) hi hz;have hv:inD D z:=by cases z<;>simp[VU]at z2;trivial
  rw[hx];have hargs:(cl.args.map ρ).toList=cv m a::cvs m q:=by rw[Array.toList_map,l1];rfl
  cases mx
  ·refine jn R (s:=Builtin.min_ cl.argTypes o.type (cl.args.map ρ)) ?_ hv;unfold Builtin.min_;rw[hargs];exact z1
  ·refine jn R (s:=Builtin.max_ cl.argTypes o.type (cl.args.map ρ)) ?_ hv;unfold Builtin.max_;rw[hargs];exact z1
 ·cases e
end Go.Ae
namespace Go.Ae
open Go
variable {P:Program} {m:Mp} {D:Nat→Prop} {h h':AH} {w:World} {c:CV} {ρ:Operand→Value} {r:Operand→Option AV} {o:Oper} {v:AV}
theorem KA {x:AV} {y n:Nat} {code:BoundsCode} (e:O9 x y=some n):(Instr.sliceBound (cv m x) y code).run P w=.ok n w∧n≤y:=by
 unfold O9 at e
 split at e
 ·rename_i k q;rw[jY]at e;obtain⟨hq,e⟩:=e;have hq:=zQ hq;simp only[Option.some.injEq]at e;subst e;refine⟨?_,hq⟩;unfold Instr.sliceBound;simp only[cv];rw[qY (show(asIntOf (.int k (.ofNat q))).run P w=.ok (k,.ofNat q) w from rfl)];have:(0:Int)≤Int.ofNat q∧Int.ofNat q≤(y:Int):=⟨Int.natCast_nonneg q,by show(q:Int)≤y;omega⟩;simp only[iJ this];rfl
 ·cases e
theorem JU {isS:Bool} {len cap u l:Nat} {lo hi:Option AV} (hu:yb hi cap len=some u) (hl:yb lo u 0=some l) :
  (Instr.sliceBounds isS len cap (lo.map (cv m)) (hi.map (cv m)) none).run P w=.ok (l,u,cap) w∧(hi=none∨u≤cap)∧(l≤u)∧(hi=none→u=len):=by
 unfold Instr.sliceBounds;have h1:((pure cap:Sem Nat)).run P w=.ok cap w:=rfl;rw[qY h1];cases hi with
 |none=>
  simp only[yb,Option.some.injEq]at hu;subst hu;simp only[Option.map_none];rw[qY (show(pure len:Sem Nat).run P w=.ok len w from rfl)];cases lo with
  |none=>simp only[yb,Option.some.injEq]at hl;subst hl;simp only[Option.map_none];rw[qY (show(pure 0:Sem Nat).run P w=.ok 0 w from rfl)];exact⟨rfl,.inl (by trivial),Nat.zero_le _,λ_=>by trivial⟩
  |some x=>obtain⟨h2,h3⟩:=KA (P:=P) (m:=m) (w:=w) (code:=.sliceB) hl;simp only[Option.map_some,Option.isSome_none,Bool.false_eq_true,if_false];rw[qY h2];exact⟨rfl,.inl (by trivial),h3,λ_=>by trivial⟩
 |some y=>
  simp only[Option.map_some];obtain⟨h4,h5⟩:=KA (P:=P) (m:=m) (w:=w) (code:=if isS then .sliceAcap else .sliceAlen) hu;rw[qY h4];cases lo with
  |none=>simp only[yb,Option.some.injEq]at hl;subst hl;simp only[Option.map_none];rw[qY (show(pure 0:Sem Nat).run P w=.ok 0 w from rfl)];exact⟨rfl,.inr h5,Nat.zero_le _,λhh=>by cases hh⟩
  |some x=>obtain⟨h2,h3⟩:=KA (P:=P) (m:=m) (w:=w) (code:=.sliceB) hl;simp only[Option.map_some,Option.isSome_none,Bool.false_eq_true,if_false];rw[qY h2];exact⟨rfl,.inr h5,h3,λhh=>by cases hh⟩
theorem qq5 (hr:OpV m D ρ r) {x:Option Operand} {y:Option AV} (e:Y9 r x=some y):x.map ρ=y.map (cv m):=by
 cases x with
 |none=>simp[Y9]at e;subst e;rfl
 |some x=>simp only[Y9,Option.map_eq_some_iff]at e;obtain⟨a,ha,rfl⟩:=e;simp[(hr _ _ ha).1]
theorem qzR {t:TypeId} {x:Operand} {lo hi mx:Option Operand} (ho:o.op=.slice t x lo hi mx) (hr:OpV m D ρ r) (R:Rel P m D h w) (e:opK P c o.op r h fin=some (v,h')):OpR P m D h w ((execOp ρ o).run P w) v h':=by
 rw[ho]at e;cases mx<;>simp only[opK,reduceCtorEq]at e
 simp only[qH]at e;obtain⟨a,ha,lo',hlo,hi',hhi,d,hd,e⟩:=e;obtain⟨a1,a2⟩:=hr _ _ ha;simp only[execOp,ho,a1,qq5 hr hlo,qq5 hr hhi,Option.map_none];cases d<;>simp only[reduceCtorEq]at e
 case string=>
  unfold gX at e
  split at e
  ·rename_i s;simp only[qH,qU]at e;obtain⟨u,hu,l,hl,t',ht,rfl,rfl⟩:=e;obtain⟨b1,_,b2,_⟩:=JU (P:=P) (m:=m) (w:=w) (isS:=false) hu hl;refine jn R ?_ trivial;unfold Instr.sliceAt;rw[qY (Ae.run_underlying hd)];simp only[];unfold Instr.slice;rw[qY (Ae.run_underlying hd)];simp only[cv,Option.isSome_none,Bool.false_eq_true,if_false];have hs:(ByteArray.mk s.toArray).size=s.length:=by simp[ByteArray.size]
   rw[hs];rw[qY b1];simp only[gJ]
   congr 2
   rw[kI]at ht;obtain⟨t1,t2⟩:=w9 ht;subst t1;apply ByteArray.ext;rw[ByteArray.data_extract];simp[List.extract_eq_take_drop]
  ·cases e
 case slice el=>
  simp only[qH]at e;obtain⟨sz,hsz,e⟩:=e;have main:∀(A:Option Addr) (len cap u l:Nat) (z:AV),cv m a=.slice A len cap→yb hi' cap len=some u→yb lo' u 0=some l→inD D z→
    cv m z=.slice (if cap=l then A else A.map (·.add (l*sz))) (u-l) (cap-l)→OpR P m D h w ((do pure (Next.value (← Instr.sliceAt t (cv m a) (lo'.map (cv m)) (hi'.map (cv m)) none)):Sem Next).run P w) z h:=by
   intro A len cap u l z hca hu hl hz hcz;obtain⟨b1,_,b2,_⟩:=JU (P:=P) (m:=m) (w:=w) (isS:=true) (len:=len) hu hl;refine jn R ?_ hz;unfold Instr.sliceAt;rw[qY (Ae.run_underlying hd)];simp only[];unfold Instr.slice;rw[qY (Ae.run_underlying hd)];simp only[hca];rw[qY b1];simp only[];rw[qY (Ae.run_sizeOf hsz),hcz];rfl
  unfold xY at e
  split at e
  ·rename_i b off len cap;simp only[qH,qU]at e;obtain⟨u,hu,l,hl,rfl,rfl⟩:=e;refine main _ len cap u l _ rfl hu hl a2 ?_;simp only[cv];cases hcl:Nat.beq cap l
   ·have:=vq hcl;simp only[cond_false,iQ this,Option.map_some,wh]
   ·have:=jo hcl;simp only[cond_true,iJ this]
  ·rename_i b off len i0;simp only[jY,qH]at e;obtain⟨hf,u,hu,l,hl,e⟩:=e;unfold yE at hf
   split at hf
   ·rename_i cs el' hg;simp only[Bool.and_eq_true]at hf;obtain⟨f0,f1,f2,f3⟩:=hf;have f0:=jo f0;have f1:=zQ f1;have f2:=jo f2;have f3:=zQ f3;subst f0;obtain⟨rest,fr,h1,h2,h3,h4,h5⟩:=R.cells a2 hg;obtain⟨h4a,h4b⟩:=h4 rfl sz hsz;rw[CT.len_eq]at f3;have hroom:i0+len≤(m b).2:=by
     have:(i0+len)*sz≤(m b).2*sz:=by rw[Nat.add_mul];omega
     exact Nat.le_of_mul_le_mul_right this f1
    have hu':yb hi' ((m b).2-i0) len=some u:=by
     cases hi' with
     |none=>exact hu
     |some y=>
      simp only[yb,O9]at hu ⊢
      split at hu
      ·rename_i k q;rw[jY]at hu ⊢;exact⟨iY (by have:=zQ hu.1;omega),hu.2⟩
      ·cases hu
    have hule:u≤len:=by
     cases hi' with
     |none=>simp only[yb,Option.some.injEq]at hu;omega
     |some y=>
      simp only[yb,O9]at hu
      split at hu
      ·rw[jY]at hu;have:=zQ hu.1;simp only[Option.some.injEq]at hu;omega
      ·cases hu
    cases hl0:Nat.beq l 0
    ·have hl0':=vq hl0;rw[hl0]at e;simp only[cond_false]at e;cases hll:Nat.ble (l+1) len
     ·rw[hll]at e;simp only[cond_false,qU]at e;obtain⟨rfl,rfl⟩:=e;have hll:¬l+1≤len:=λh=>by rw[iY h]at hll;cases hll
      obtain⟨_,_,q1,_⟩:=JU (P:=P) (m:=m) (w:=w) (isS:=true) (len:=len) hu' hl;refine main _ len _ u l _ rfl hu' hl a2 ?_;simp only[cv];have e1:u-l=0:=by omega
      rw[e1];by_cases hc:(m b).2=i0+l
      ·rw[iJ hc,iJ omQ]
       congr 1
       omega
      ·rw[iQ hc,iQ omQ];simp only[Option.map_some,wh]
       congr 1
       omega
     rw[hll]at e;simp only[cond_true,qU]at e;obtain⟨rfl,rfl⟩:=e;have hll:=zQ hll;refine main _ len _ u l _ rfl hu' hl a2 ?_;simp only[cv];rw[iQ omQ];simp only[Option.map_some,wh]
     congr 1
     omega
    ·have hl0':=jo hl0;subst hl0';rw[hl0]at e;simp only[cond_true,qU]at e;obtain⟨rfl,rfl⟩:=e;refine main _ len _ u 0 _ rfl hu' hl a2 ?_;simp only[cv];simp[Addr.add]
   ·cases hf
  ·simp only[qH,qU]at e;obtain⟨u,hu,l,hl,rfl,rfl⟩:=e;have hu0:u=0:=by
    cases hi' with
    |none=>simp only[yb,Option.some.injEq]at hu;omega
    |some y=>
     simp only[yb,O9]at hu
     split at hu
     ·rw[jY]at hu;have:=zQ hu.1;simp only[Option.some.injEq]at hu;omega
     ·cases hu
   subst hu0;have hl0:l=0:=by
    cases lo' with
    |none=>simp only[yb,Option.some.injEq]at hl;omega
    |some y=>
     simp only[yb,O9]at hl
     split at hl
     ·rw[jY]at hl;have:=zQ hl.1;simp only[Option.some.injEq]at hl;omega
     ·cases hl
   subst hl0;refine main none 0 0 0 0 .nils rfl hu hl trivial ?_;simp[cv]
  ·simp only[qH,qU]at e;obtain⟨u,hu,l,hl,rfl,rfl⟩:=e;have hu0:u=0:=by
    cases hi' with
    |none=>simp only[yb,Option.some.injEq]at hu;omega
    |some y=>
     simp only[yb,O9]at hu
     split at hu
     ·rw[jY]at hu;have:=zQ hu.1;simp only[Option.some.injEq]at hu;omega
     ·cases hu
   subst hu0;have hl0:l=0:=by
    cases lo' with
    |none=>simp only[yb,Option.some.injEq]at hl;omega
    |some y=>
     simp only[yb,O9]at hl
     split at hl
     ·rw[jY]at hl;have:=zQ hl.1;simp only[Option.some.injEq]at hl;omega
     ·cases hl
   subst hl0;refine main _ 0 0 0 0 (.empt _) rfl hu hl trivial ?_;simp[cv]
  ·cases e
 case array n el=>
  simp only[qH]at e;obtain⟨sz,hsz,e⟩:=e;unfold gk at e
  split at e
  ·rename_i b off;simp only[qH,qU]at e;obtain⟨u,hu,l,hl,rfl,rfl⟩:=e;obtain⟨b1,_,b2,_⟩:=JU (P:=P) (m:=m) (w:=w) (isS:=false) (len:=n) hu hl;refine jn R ?_ a2;unfold Instr.sliceAt;rw[qY (Ae.run_underlying hd)];simp only[cv];rw[qY (show(Instr.sureAddr (.pointer (some ⟨(m b).1,off,none⟩))).run P w=.ok ⟨(m b).1,off,none⟩ w from rfl)];rw[qY b1];simp only[];rw[qY (Ae.run_sizeOf hsz)];cases hcl:Nat.beq n l
   ·have:=vq hcl;simp only[cond_false,iQ this,wh];rfl
   ·have:=jo hcl;simp only[cond_true,iJ this];rfl
  ·cases e
end Go.Ae
namespace Go.Ae
open Go
variable {P:Program} {m:Mp} {D:Nat→Prop} {h h':AH} {w:World} {c:CV} {ρ:Operand→Value} {r:Operand→Option AV} {o:Oper} {v:AV}
theorem qGs:∀(vs:List Value) (C:List Value) (off i:Nat),off+i+vs.length≤C.length→
  (vs.zipIdx i).foldl (λcs (p:Value×Nat)=>cs.setIfInBounds (off+p.2) p.1) C.toArray=(C.take (off+i)++vs++C.drop (off+i+vs.length)).toArray:=by
 intro vs
 induction vs with
 |nil=>intro C off i h;simp
 |cons v vs ih=>
  intro C off i h;simp only[List.length_cons]at h;simp only[List.zipIdx_cons,List.foldl_cons];have e0:C.toArray.setIfInBounds (off+i) v=(C.set (off+i) v).toArray:=by simp
  rw[e0,ih _ off (i+1) (by simp;omega)]
  congr 1
  have e1:(C.set (off+i) v).take (off+(i+1))=C.take (off+i)++[v]:=by rw[show off+(i+1)=(off+i)+1 from by omega,List.take_succ_eq_append_getElem (by simp;omega)];simp[List.take_set_of_le]
  have e2:(C.set (off+i) v).drop (off+(i+1)+vs.length)=C.drop (off+i+(v::vs).length):=by
   rw[List.drop_set_of_lt omQ]
   congr 1
   simp;omega
  rw[e1,e2];simp
theorem Mw (hr:OpV m D ρ r) {pl:Nat→Option (Nat×Nat)} {l:List (Nat×Operand)} {vs:List (Nat×Nat×AV)} (e:yG pl r l=some vs) :
  ∀{z cs:List AV},yM z vs=some cs→inDs D z→Instr.fill pl (cvs m z).toArray (l.map λp=>(p.1,ρ p.2))=some (cvs m cs).toArray∧inDs D cs:=by
 induction l generalizing vs with
 |nil=>intro z cs e2 hz;simp[yG]at e;subst e;simp[yM]at e2;subst e2;exact⟨rfl,hz⟩
 |cons p l ih=>
  obtain⟨i,x⟩:=p;intro z cs e2 hz;simp only[yG,Option.bind_eq_some_iff,Option.map_eq_some_iff]at e;obtain⟨q,hq,a,ha,s,hs,rfl⟩:=e;obtain⟨a1,a2⟩:=hr _ _ ha;simp only[yM,jY,Option.bind_eq_some_iff]at e2;obtain⟨hl,z',hz',e2⟩:=e2;have hl:=jo hl;obtain⟨e3,e4⟩:=Kt hz';have hzd:inDs D z':=by rw[e3];exact vB.2 ⟨vB.2 ⟨JW _ hz,w5 a2⟩,YD _ hz⟩
  obtain⟨f1,f2⟩:=ih hs e2 hzd;refine⟨?_,f2⟩;simp only[List.map_cons,Instr.fill,hq];have hsz:(ρ x).cells.size=q.2:=by rw[a1,gp];simpa using hl
  have hno:(decide ((ρ x).cells.size≠q.2)||decide (q.1+(ρ x).cells.size>(cvs m z).toArray.size))=false:=by rw[hsz];simp only[Bool.or_eq_false_iff,decide_eq_false_iff_not,List.size_toArray,cvs_len];exact⟨λhh=>hh rfl,by omega⟩
  simp only[hno,Bool.false_eq_true,if_false];rw[← f1]
  congr 1
  rw[a1,gp,← Array.foldl_toList];have:=qGs (cvs m a.cells) (cvs m z) q.1 0 (by simp;omega);rw[Array.toList_zipIdx];show List.foldl (λcs (p:Value×Nat)=>cs.setIfInBounds (q.1+p.2) p.1) (cvs m z).toArray ((cvs m a.cells).zipIdx 0)=_;rw[this,e3];simp[zl]
theorem qJ5 {fs:List Field} {pl:List (Nat×Nat)} (e:kC P fs=some pl):(fs.mapM λf=>(do pure (f.offset,← sizeOf f.type):Sem (Nat×Nat))).run P w=.ok pl w:=by
 induction fs generalizing pl with
 |nil=>simp[kC,wV]at e;subst e;rfl
 |cons f fs ih=>simp only[kC,wV,Option.bind_eq_some_iff,Option.map_eq_some_iff]at e;obtain⟨q,⟨n,hn,rfl⟩,t,ht,he⟩:=e;cases he;rw[List.mapM_cons];rw[qY (show(do pure (f.offset,← sizeOf f.type):Sem (Nat×Nat)).run P w=.ok (f.offset,n) w from by rw[qY (Ae.run_sizeOf hn)];rfl)];rw[qY (ih ht)];rfl
theorem qXh {fs:Array Field} {pl:List (Nat×Nat)} (e:kC P fs.toList=some pl):(fs.mapM λf=>(do pure (f.offset,← sizeOf f.type):Sem (Nat×Nat))).run P w=.ok pl.toArray w:=by rw[Array.mapM_eq_mapM_toList];show((fs.toList.mapM λf=>(do pure (f.offset,← sizeOf f.type):Sem (Nat×Nat)))>>=λl=>pure l.toArray).run P w=_;rw[qY (qJ5 e)];rfl
theorem qqs {t:TypeId} {parts:Array (Nat×Operand)} (ho:o.op=.build t parts) (hr:OpV m D ρ r) (R:Rel P m D h w) (e:opK P c o.op r h fin=some (v,h')):OpR P m D h w ((execOp ρ o).run P w) v h':=by
 rw[ho]at e;simp only[opK,qH]at e;obtain⟨z,hz,d,hd,e⟩:=e;obtain⟨z1,z2⟩:=x7 (w:=w) (m:=m) (D:=D) hz;simp only[execOp,ho];cases d<;>simp only[reduceCtorEq]at e
 case struct fs=>
  simp only[qH]at e;obtain⟨pl,hpl,vs,hvs,e⟩:=e;unfold yg at e;simp only[qH,qU]at e;obtain⟨cs,hcs,rfl,rfl⟩:=e;have hp1:=qXh (w:=w) hpl;have hvs':yG (pl.toArray[·]?) r parts.toList=some vs:=by
   have:(λi=>pl.toArray[i]?)=λi=>kz pl i:=by funext i;rw[yV];simp
   rw[this];exact hvs
  obtain⟨f1,f2⟩:=Mw hr hvs' hcs (w5 z2);refine jn R ?_ f2;unfold Instr.build;rw[qY z1];rw[qY (Ae.run_underlying hd)];simp only[];rw[qY hp1,gp];have hparts:(parts.map λ(p:Nat×Operand)=>(p.1,ρ p.2)).toList=parts.toList.map λp=>(p.1,ρ p.2):=by simp
  rw[hparts,f1];rfl
 case array n el=>
  simp only[qH]at e;obtain⟨sz,hsz,vs,hvs,e⟩:=e;unfold yg at e;simp only[qH,qU]at e;obtain⟨cs,hcs,rfl,rfl⟩:=e;obtain⟨f1,f2⟩:=Mw hr hvs hcs (w5 z2);refine jn R ?_ f2;unfold Instr.build;rw[qY z1];rw[qY (Ae.run_underlying hd)];simp only[];rw[qY (Ae.run_sizeOf hsz),gp];have hparts:(parts.map λ(p:Nat×Operand)=>(p.1,ρ p.2)).toList=parts.toList.map λp=>(p.1,ρ p.2):=by simp
  rw[hparts,f1];rfl
theorem Xz {t:TypeId} {z:List AV} (e:KU P t=some z):∃i za,P.info? t=some i∧zero? P t=some za∧z=za.cells∧z.length=i.size∧qp z=true∧i.bytes≤65536∧cellsOf? P t=some z.length:=by unfold KU at e;simp only[Option.bind_eq_some_iff,jY,Bool.and_eq_true,Option.some.injEq]at e;obtain⟨i,hi,za,hz,⟨h1,h2,h3⟩,rfl⟩:=e;have h1:=jo h1;exact⟨i,za,hi,hz,rfl,h1,h2,zQ h3,by unfold cellsOf?;rw[hi,h1];rfl⟩
theorem kH {α:Type} (l:List α) (n:Nat):(vE l n).length=n*l.length:=by
 induction n with
 |zero=>simp[vE]
 |succ n ih=>simp[vE,ih,Nat.succ_mul];omega
theorem Nr {l:List AV} (hl:inDs D l) (n:Nat):inDs D (vE l n):=by
 induction n with
 |zero=>trivial
 |succ n ih=>exact vB.2 ⟨hl,ih⟩
theorem qj7 {α:Type} [Inhabited α] (l:List α) (n i:Nat) (hi:i<n*l.length):(vE l n)[i]? =some (l.toArray[i%l.toArray.size]!):=by
 induction n generalizing i with
 |zero=>simp at hi
 |succ n ih=>
  have hpos:0<l.length:=by
   rcases Nat.eq_zero_or_pos l.length with h |h
   ·rw[h]at hi;simp at hi
   ·exact h
  simp only[vE];by_cases hlt:i<l.length
  ·rw[List.getElem?_append_left hlt];simp only[List.size_toArray];rw[Nat.mod_eq_of_lt hlt];simp[hlt]
  ·rw[List.getElem?_append_right omQ,ih (i-l.length) (by rw[Nat.succ_mul]at hi;omega)]
   congr 2
   simp only[List.size_toArray]
   conv=>rhs;rw[show i=(i-l.length)+l.length from by omega,Nat.add_mod_right]
theorem qQC (z:List AV) (n:Nat) (m:Mp):((Array.range (n*z.length)).map λi=>(cvs m z).toArray[i%(cvs m z).toArray.size]!)=(cvs m (vE z n)).toArray:=by
 apply Array.ext
 ·simp[kH]
 ·intro i h1 h2;have hi:i<n*z.length:=by simpa using h1
  have hg:=qj7 (cvs m z) n i (by simpa using hi);have hr:vE (cvs m z) n=cvs m (vE z n):=by
   clear hg h1 h2 hi
   induction n with
   |zero=>rfl
   |succ n ih=>simp[vE,ih,YX]
  rw[hr]at hg;simp only[Array.getElem_map,Array.getElem_range,List.getElem_toArray];have:=List.getElem?_eq_some_iff.1 hg;obtain⟨_,hh⟩:=this;exact hh.symm
theorem qja {α:Type} (f:Nat→α):(Array.range 0).map f= #[]:=by simp
theorem qWd {t:TypeId} {len:Nat} {parts:Array (Nat×Operand)} (ho:o.op=.buildSlice t len parts) (hr:OpV m D ρ r) (R:Rel P m D h w) (e:opK P c o.op r h fin=some (v,h')):OpR P m D h w ((execOp ρ o).run P w) v h':=by
 rw[ho]at e;simp only[opK,qH]at e;obtain⟨d,hd,e⟩:=e;cases d<;>simp only[reduceCtorEq]at e
 rename_i el;simp only[qH,jt]at e;obtain⟨z,hz,hlen,vs,hvs,e⟩:=e;have hlen:=zQ hlen;obtain⟨i,za,hi,hza,rfl,hzl,hone,hby,hsz⟩:=Xz hz;unfold xX at e;simp only[qH,jY,qU]at e;obtain⟨cs,hcs,hcone,rfl,rfl⟩:=e;obtain⟨z1,z2⟩:=x7 (w:=w) (m:=m) (D:=D) hza;obtain⟨f1,f2⟩:=Mw hr hvs hcs (Nr (w5 z2) len);simp only[execOp,ho];refine MG R (w0:={ w with heap:=w.heap.push (.cells (cvs m cs).toArray el) }) (room:=0) ?_ rfl rfl rfl rfl (by simp only[inDB,CT.ofList_ok];exact f2) (Oa (CT.ofList_ok _) _ rfl) (.inl rfl);unfold Instr.buildSlice;rw[qY (Ae.run_underlying hd)];simp only[];rw[qY (Ae.run_sizeOf hsz)];have hno:¬(len*za.cells.length>2 ^ 24):=by omega
 simp only[hno,if_false];have hparts:(parts.map λ(p:Nat×Operand)=>(p.1,ρ p.2)).toList=parts.toList.map λp=>(p.1,ρ p.2):=by simp
 have zs:=qQC za.cells len m;have z0:(cvs m za.cells).toArray.size=za.cells.length:=by simp
 have last:∀cells,Instr.fill (λi=>some (i*za.cells.length,za.cells.length)) cells (parts.map λ(x:Nat×Operand)=>(x.1,ρ x.2)).toList=some (cvs m cs).toArray→
   (match Instr.fill (λi=>some (i*za.cells.length,za.cells.length)) cells (parts.map λ(x:Nat×Operand)=>(x.1,ρ x.2)).toList with
    |some cells=>(do
      let a ← newRow el cells
      pure (Value.slice (some a) len len):Sem Value)
    | _ => stuck "buildSlice: a part of the wrong size").run P w = .ok (cv (fun x => if x = h.nx then (w.heap.size, 0) else m x) (.slice h.nx 0 len len false)) { w with heap := w.heap.push (.cells (cvs m cs).toArray el) } := by
  intro cells hh;rw[hh];simp only[];rw[qY (wS el _)];simp[cv]
 split
 ·rename_i h0;rw[qY (show(pure #[]:Sem (Array Value)).run P w=.ok #[] w from rfl)];apply last;rw[hparts,h0];have:vE za.cells len=[]:=iA (by rw[kH,h0]);rw[this]at f1;rw[qja];exact f1
 ·rw[qY z1,gp];rw[qY (show(pure (cvs m za.cells).toArray:Sem (Array Value)).run P w=.ok _ w from rfl)];apply last;rw[hparts,zs];exact f1
theorem qZN {n:Nat} (h:n≤1073741824):IntKind.i64.wrap (Int.ofNat n)=Int.ofNat n:=by rw[KG];show(if(9223372036854775808:Int)≤(n:Int)%18446744073709551616 then _ else(n:Int)%18446744073709551616)=(n:Int);rw[iQ omQ];omega
theorem UX (n:Nat):(askRoom n).run P w=.ok () w:=by
 unfold askRoom
 split<;>rfl
theorem qws {t:TypeId} {x y:Operand} (ho:o.op=.makeSlice t x y) (hr:OpV m D ρ r) (R:Rel P m D h w) (e:opK P c o.op r h fin=some (v,h')):OpR P m D h w ((execOp ρ o).run P w) v h':=by
 rw[ho]at e;simp only[opK,qH]at e;obtain⟨d,hd,e⟩:=e;cases d<;>simp only[reduceCtorEq]at e
 rename_i el;simp only[qH]at e;obtain⟨z,hz,a,ha,b,hb,e⟩:=e;obtain⟨a1,a2⟩:=hr _ _ ha;obtain⟨b1,b2⟩:=hr _ _ hb;obtain⟨i,za,hi,hza,rfl,hzl,hone,hby,hsz⟩:=Xz hz;unfold Qv at e
 split at e
 ·rename_i k1 ln k2 cp;simp only[jY,qU,Bool.and_eq_true]at e;obtain⟨⟨h1,h2⟩,rfl,rfl⟩:=e;have h1:=zQ h1;have h2:=zQ h2;obtain⟨z1,z2⟩:=x7 (w:=w) (m:=m) (D:=D) hza;simp only[execOp,ho,a1,b1];refine MG R (w0:={ w with heap:=w.heap.push (.cells (cvs m (vE za.cells cp)).toArray el) }) (room:=0) ?_ rfl rfl rfl rfl (by simp only[inDB,CT.rep_ok];exact Nr (w5 z2) cp) (Oa (CT.rep_ok _ _) _ rfl) (.inl rfl);unfold Instr.makeSlice;rw[qY (Ae.run_underlying hd)];simp only[cv];rw[qY (show(asInt (.int k1 (.ofNat ln))).run P w=.ok (.ofNat ln) w from rfl)];rw[qY (show(asInt (.int k2 (.ofNat cp))).run P w=.ok (.ofNat cp) w from rfl)];rw[qY (Ae.run_typeInfo hi)];simp only[qZN (show ln≤1073741824 by omega),qZN h2];have hb1:i.bytes*cp≤65536*1073741824:=Nat.mul_le_mul hby h2;have hcond:(decide (Int.ofNat cp<0)||decide ((i.bytes:Int)*Int.ofNat cp>2 ^ 48)||decide (Int.ofNat ln<0)||decide (Int.ofNat ln>Int.ofNat cp))=false:=by
   have e1:((i.bytes:Int)*Int.ofNat cp)=((i.bytes*cp:Nat):Int):=by simp
   simp only[Bool.or_eq_false_iff,decide_eq_false_iff_not,e1];refine⟨⟨⟨?_,by omega⟩,?_⟩,?_⟩
   ·show¬((cp:Int)<0);omega
   ·show¬((ln:Int)<0);omega
   ·show¬((ln:Int)>(cp:Int));omega
  simp only[hcond,Bool.false_eq_true,if_false];rw[qY (UX _)];rw[qY (Ae.run_sizeOf hsz)];simp only[show(Int.ofNat cp).toNat=cp from rfl,show(Int.ofNat ln).toNat=ln from rfl];have zs:=qQC za.cells cp m
  split
  ·rename_i h0;rw[qY (show(pure #[]:Sem (Array Value)).run P w=.ok #[] w from rfl)];have:vE za.cells cp=[]:=iA (by rw[kH,h0]);rw[h0,this,qja];rw[qY (wS el _)];simp;rfl
  ·rw[qY z1,gp];rw[qY (show(pure (cvs m za.cells).toArray:Sem (Array Value)).run P w=.ok _ w from rfl)];rw[zs,qY (wS el _)];simp
 ·cases e
end Go.Ae
namespace Go.Ae
open Go
variable {P:Program} {m:Mp} {D:Nat→Prop} {h h':AH} {w:World} {c:CV} {ρ:Operand→Value} {r:Operand→Option AV} {o:Oper} {v:AV}
theorem NI {x:AV} {n:Nat} (e:Qz x=some n):(Builtin.lenOf (cv m x)).run P w=.ok n w:=by
 cases x<;>simp only[Qz,reduceCtorEq,Option.some.injEq]at e<;>subst e
 ·simp only[cv,Builtin.lenOf];show Result.ok (ByteArray.mk _).size w=_;simp[ByteArray.size]
 ·rfl
 ·rfl
 ·rfl
 ·rfl
theorem Xm (R:Rel P m D h w) {x:AV} {sz n:Nat} {l:List AV} (hx:inD D x) (e:wX h sz n x=some l) :
  (Builtin.firstCells sz n (cv m x)).run P w=.ok (cvs m l).toArray w∧inDs D l:=by
 cases x<;>simp only[wX,reduceCtorEq]at e
 case str s=>
  simp only[Option.map_eq_some_iff]at e;obtain⟨t,ht,rfl⟩:=e;obtain⟨t1,t2⟩:=w9 ht;refine⟨?_,?_⟩
  ·simp only[cv,Builtin.firstCells,gJ]
   congr 1
   subst t1;rw[ByteArray.data_extract];simp[zl,List.extract_eq_take_drop];rfl
  ·rw[xC];intro v hv;rw[List.mem_map]at hv;obtain⟨b,_,rfl⟩:=hv;trivial
 case slice b off len cp opn=>obtain⟨h1,h2,_⟩:=R.read hx e;exact⟨h1,h2⟩
 case nils=>simp only[Option.some.injEq]at e;subst e;exact⟨rfl,trivial⟩
 case empt a=>simp only[jY,Option.some.injEq]at e;obtain⟨e1,rfl⟩:=e;have e1:=jo e1;subst e1;refine⟨?_,trivial⟩;simp only[cv,Builtin.firstCells,Nat.zero_mul];simp[loadCells,loadCellsFrom,cvs]
 case tail b o o' i1=>simp only[jY,Option.some.injEq]at e;obtain⟨e1,rfl⟩:=e;have e1:=jo e1;subst e1;refine⟨?_,trivial⟩;simp only[cv,Builtin.firstCells,Nat.zero_mul];simp[loadCells,loadCellsFrom,cvs]
def qjc (h:AH) (sz n:Nat) (x:AV) (l:List AV):Prop :=
 wX h sz n x=some l∨∃b off len cap opn c t o,x=.slice b off len cap opn∧h.get b=some (.cells c t o)∧yt (n*sz) (vy off c.toList)=some l
theorem qxn {h:AH} {sz n:Nat} {x:AV} {nc:CT} (e:Mz h sz n x=some nc):qjc h sz n x nc.toList:=by
 cases x<;>simp only[Mz,reduceCtorEq]at e
 case slice b off len cap opn=>
  split at e
  ·rename_i c t o hg;exact .inr ⟨b,off,len,cap,opn,c,t,o,rfl,hg,CT.seg_ok e⟩
  ·rename_i t hg;simp only[Option.bind_eq_some_iff]at e;obtain⟨l,hl,e⟩:=e;cases e;refine .inl ?_;simp only[wX,yv,hg,hl,CT.ofList_ok]
  ·cases e
 case nils=>cases e;exact .inl rfl
 case empt a=>rw[jY]at e;obtain⟨e1,e⟩:=e;cases e;refine .inl ?_;simp only[wX,e1,cond_true];rfl
 case tail b o o' i1=>rw[jY]at e;obtain⟨e1,e⟩:=e;cases e;refine .inl ?_;simp only[wX,e1,cond_true];rfl
 case str s=>simp only[Option.bind_eq_some_iff]at e;obtain⟨l,hl,e⟩:=e;cases e;refine .inl ?_;simp only[wX,hl,Option.map_some,CT.ofList_ok]
theorem qGa (newLen:Nat):∀(rounds c:Nat),c≤2*newLen+1000→Builtin.growBy newLen rounds c≤2*newLen+1000:=by
 intro rounds
 induction rounds with
 |zero=>intro c h;exact h
 |succ n ih=>
  intro c h;unfold Builtin.growBy
  split
  ·exact h
  ·apply ih;omega
theorem qk5 {need cap:Nat} (h:cap<need):Builtin.nextslicecap need cap≤2*need+1000:=by
 unfold Builtin.nextslicecap
 split
 ·omega
 ·split
  ·omega
  ·exact qGa need 4 cap omQ
theorem qXH {t u:TypeId} {ts:List TypeId} {ty:TypeId} {e:TypeId} {du:TypeDesc} {i:TypeInfo} {za:AV} {s x:Value} {base:Option Addr} {sLen sCap n:Nat} {new:Array Value}
  (ht:P.underlying t=some (.slice e)) (hu:P.underlying u=some du) (hdu:∀k,du≠.int k) (hi:P.info? e=some i) (hza:zero? P e=some za) (hz:za.cells.length=i.size) (hb:i.bytes≤65536)
  (hs:s=.slice base sLen sCap) (hlen:(Builtin.lenOf x).run P w=.ok n w) (hfirst:∀W:World,W.heap=w.heap→(Builtin.firstCells i.size n x).run P W=.ok new W) :
  (sLen+n≤sCap→(Builtin.append_ (t::u::ts).toArray ty [s,x].toArray).run P w=
   (do (match(generalizing:=false) base with |some a=>storeCells (a.add (sLen*i.size)) new.toList |none=>pure ());pure (.slice base (sLen+n) sCap):Sem Value).run P w)∧
  (¬sLen+n≤sCap→sLen+n≤67108864→∀old:Array Value,(∀W:World,W.heap=w.heap→(Builtin.firstCells i.size sLen s).run P W=.ok old W)→
   ∃(cap:Nat) (rest:Array Value),sLen+n≤cap∧rest.size=(cap-(sLen+n))*i.size∧
    (Builtin.append_ (t::u::ts).toArray ty [s,x].toArray).run P w=.ok (.slice (some ⟨w.heap.size,0,none⟩) (sLen+n) cap) { w with drawn:=w.drawn+1,heap:=w.heap.push (.cells (old++new++rest) e) }):=by
 subst hs;have hsz:cellsOf? P e=some i.size:=by unfold cellsOf?;rw[hi];rfl
 unfold Builtin.append_;simp only[List.getElem?_toArray,List.getElem?_cons_zero,List.getElem?_cons_succ];rw[qY (Ae.run_underlying ht)];simp only[];rw[qY (Ae.run_sizeOf hsz)];rw[qY (Ae.run_underlying hu)];cases du<;>first |(exact absurd rfl (hdu _)) |skip
 all_goals
  rw[qY (show(pure _:Sem Bool).run P w=.ok false w from rfl)];simp only[Bool.false_eq_true,if_false,Bool.not_false,if_true];rw[qY hlen];constructor
  ·intro hle;simp only[iJ hle];rw[qY (hfirst w rfl)];cases base<;>rfl
  ·intro hnle hsmall old hold;simp only[iQ hnle];rw[qY (Ae.run_typeInfo hi)];have h1:¬(((sLen+n:Nat):Int)>IntKind.i64.max∧(False∨i.bytes=0)):=by
    rintro⟨hh,_⟩;have:((sLen+n:Nat):Int)>9223372036854775807:=hh;omega
   simp only[iQ h1];rw[qY (Ae.run_typeInfo hi)];have h2:¬(Builtin.nextslicecap (sLen+n) sCap*i.bytes>2 ^ 48):=by have a1:=qk5 (show sCap<sLen+n by omega);have a2:Builtin.nextslicecap (sLen+n) sCap*i.bytes≤134219728*65536:=Nat.mul_le_mul omQ hb;omega
   simp only[iQ h2];refine⟨(Question.appendCap (sLen+n) sCap e).cut (w.tape w.drawn (.appendCap (sLen+n) sCap e)),(Builtin.zeroCells (cvs (λ_=>(0,0)) za.cells).toArray ((Question.appendCap (sLen+n) sCap e).cut (w.tape w.drawn (.appendCap (sLen+n) sCap e))-(sLen+n))),?_,?_,?_⟩
   ·simp only[Question.cut];omega
   ·simp[Builtin.zeroCells,hz]
   ·rw[qY (show(choose (.appendCap (sLen+n) sCap e)).run P w=.ok _ { w with drawn:=w.drawn+1 }from rfl)];rw[qY (Ae.run_typeInfo hi)];rw[qY (UX _)];rw[qY (hold { w with drawn:=w.drawn+1 } rfl)];rw[qY (hfirst { w with drawn:=w.drawn+1 } rfl)];rw[qY (x7 (m:=λ_=>(0,0)) (D:=λ_=>True) hza).1];rw[qY (wS e _),gp];rfl
theorem Rel.kill (r:Rel P m D h w) (b:Nat) (hb:D b):Ext m D h w m D (h.put b .dead) w∧Rel P m D (h.put b .dead) w:=by
 refine Ext.rel r ?_;have hget:∀b',b'≠b→(h.put b .dead).get b'=h.get b':=λb' hn=>AH.get_put_ne h .dead (λe=>hn e.symm);have hlive:∀b',live (h.put b .dead) b'→live h b':=λb' hl=>by
  by_cases e:b'=b
  ·subst e;obtain⟨x,hx,hxl⟩:=hl;rw[AH.get_put_same]at hx;cases hx;exact hxl.elim
  ·unfold live at*;rw[hget b' e]at hl;exact hl
 refine⟨⟨λ_ h=>h,λ_ _=>rfl,Nat.le_refl _,?_,Nat.le_refl _,?_,rfl,rfl,rfl,λb=>⟨.inl,λhb=>hb.elim id λhb=>by simp at hb;omega⟩,?_⟩,⟨?_,?_,?_,?_⟩⟩
 ·intro c hc hn;refine⟨rfl,?_⟩;rintro⟨b',hb',hl',he⟩;exact hn ⟨b',hb',hlive b' hl',he⟩
 ·intro b' hb' hn;exact⟨hget b' (λe=>hn (e▸hb)),hn⟩
 ·intro b' t hb' hg;by_cases e:b'=b
  ·subst e;rw[AH.get_put_same]at hg;cases hg
  ·exact⟨hb',by rw[← hget b' e];exact hg⟩
 ·intro b' hb';by_cases e:b'=b
  ·subst e;exact⟨.dead,AH.get_put_same h b' _,trivial,trivial⟩
  ·obtain⟨y,hy,hyr,hyd⟩:=r.blk b' hb';exact⟨y,(hget b' e).trans hy,hyr,hyd⟩
 ·intro b1 b2 h1 h2 l1 l2 he;exact r.inj b1 b2 h1 h2 (hlive b1 l1) (hlive b2 l2) he
 ·intro b' hb';exact r.lt b' hb'
 ·rintro b' t hb' hg ⟨b2,hb2,hl2,he⟩;by_cases e:b'=b
  ·subst e;rw[AH.get_put_same]at hg;cases hg
  ·rw[hget b' e]at hg;exact r.inp b' t hb' hg ⟨b2,hb2,hlive b2 hl2,he⟩
theorem Rel.adopt {w0:World} (r:Rel P m D h w) (b:Nat) (x:Blk) (hb:D b) (hlb:live h b)
  (hsize:w0.heap.size=w.heap.size) (hother:∀c,c≠(m b).1→w0.heap[c]? =w.heap[c]?) (hos:w0.os=w.os) (htape:w0.tape=w.tape) (hout:w0.output=w.output)
  (hx:inDB D x) (hxr:BlkR P m x (m b) w0) (hni:∀t,x≠.inp t:=by intro t hh;cases hh) :
  let m':Mp:=λb'=>if b'=h.nx then m b else m b'
  let D':Nat→Prop:=λb'=>b'=h.nx∨D b'
  Ext m D h w m' D' ((h.put b .dead).new x) w0∧Rel P m' D' ((h.put b .dead).new x) w0:=by
 intro m' D';refine Ext.rel r ?_;have hbn:b≠h.nx:=by have:=r.lt b hb;omega
 have hm:∀b',D b'→m' b'=m b':=λb' hb'=>by
  have:=r.lt b' hb';simp only[m'];rw[iQ omQ]
 have hnew:m' h.nx=m b:=by simp[m']
 have hget:∀b',D b'→b'≠b→((h.put b .dead).new x).get b'=h.get b':=λb' hb' hn=>by
  rw[AH.get_new_ne _ x (show(h.put b .dead).nx≠b' by have:=r.lt b' hb';simp;omega),AH.get_put_ne h .dead (λe=>hn e.symm)]
 have hgetb:((h.put b .dead).new x).get b=some .dead:=by rw[AH.get_new_ne _ x (show(h.put b .dead).nx≠b by simp;omega),AH.get_put_same]
 have hdead:¬live ((h.put b .dead).new x) b:=by rintro⟨y,hy,hyl⟩;rw[hgetb]at hy;cases hy;exact hyl
 have hlive:∀b',D b'→live ((h.put b .dead).new x) b'→live h b'∧b'≠b:=λb' hb' hl=>by
  have hn:b'≠b:=λe=>hdead (e▸hl);refine⟨?_,hn⟩;unfold live at*;rw[hget b' hb' hn]at hl;exact hl
 refine⟨⟨λb' h=>.inr h,hm,by omega,?_,Nat.le_succ _,?_,hos,htape,hout,λb'=>(show b'=h.nx∨D b'↔D b'∨(h.nx≤b'∧b'<h.nx+1)from⟨λhh=>hh.elim (λe=>.inr omQ) .inl,λhh=>hh.elim .inr λe=>.inl omQ⟩),?_⟩,⟨?_,?_,?_,?_⟩⟩
 ·intro c hc hn;have hcb:c≠(m b).1:=λe=>hn ⟨b,hb,hlb,e.symm⟩;refine⟨hother c hcb,?_⟩;rintro⟨b',hb',hl',he⟩;rcases hb' with rfl |hb'
  ·rw[hnew]at he;exact hcb he.symm
  ·rw[hm b' hb']at he;exact hn ⟨b',hb',(hlive b' hb' hl').1,he⟩
 ·intro b' hb' hn;have hne:b'≠b:=λe=>hn (e▸hb);refine⟨?_,?_⟩
  ·rw[AH.get_new_ne _ x (show(h.put b .dead).nx≠b' by simp;omega),AH.get_put_ne h .dead (λe=>hne e.symm)]
  ·rintro(rfl |hd)
   ·omega
   ·exact hn hd
 ·intro b' t hb' hg;rcases hb' with rfl |hb'
  ·have hgn:((h.put b .dead).new x).get h.nx=some x:=AH.get_new_same (h.put b .dead) x;rw[hgn]at hg;cases hg;exact absurd rfl (hni t)
  ·by_cases e:b'=b
   ·subst e;rw[hgetb]at hg;cases hg
   ·exact⟨hb',by rw[← hget b' hb' e];exact hg⟩
 ·intro b' hb';rcases hb' with rfl |hb'
  ·refine⟨x,AH.get_new_same (h.put b .dead) x,?_,hx.mono λb hb=>.inr hb⟩;rw[hnew];exact hxr.congr hm hx rfl
  ·by_cases e:b'=b
   ·subst e;exact⟨.dead,hgetb,trivial,trivial⟩
   ·obtain⟨y,hy,hyr,hyd⟩:=r.blk b' hb';refine⟨y,(hget b' hb' e).trans hy,?_,hyd.mono λb hb=>.inr hb⟩;rw[hm b' hb'];cases y with
    |dead=>trivial
    |inp t=>exact hyr.congr hm hyd (hother _ λee=>r.inp b' t hb' hy ⟨b,hb,hlb,ee.symm⟩)
    |_=>exact hyr.congr hm hyd (hother _ λee=>e (r.inj b' b hb' hb ⟨_,hy,by exact True.intro⟩ hlb ee))
 ·intro b1 b2 h1 h2 l1 l2 he;rcases h1 with rfl |h1<;>rcases h2 with rfl |h2
  ·rfl
  ·exfalso;obtain⟨q1,q2⟩:=hlive b2 h2 l2;rw[hnew,hm b2 h2]at he;exact q2 (r.inj b b2 hb h2 hlb q1 he).symm
  ·exfalso;obtain⟨q1,q2⟩:=hlive b1 h1 l1;rw[hnew,hm b1 h1]at he;exact q2 (r.inj b1 b h1 hb q1 hlb he)
  ·rw[hm b1 h1,hm b2 h2]at he;exact r.inj b1 b2 h1 h2 (hlive b1 h1 l1).1 (hlive b2 h2 l2).1 he
 ·intro b' hb';rcases hb' with rfl |hb'
  ·simp
  ·have:=r.lt b' hb';simp;omega
 ·rintro b1 t h1 hg ⟨b2,h2,l2,he⟩;rcases h1 with rfl |h1
  ·have hgn:((h.put b .dead).new x).get h.nx=some x:=AH.get_new_same (h.put b .dead) x;rw[hgn]at hg;cases hg;rcases h2 with rfl |h2
   ·obtain⟨y,hy,hyl⟩:=l2;rw[hgn]at hy;cases hy;exact hyl
   ·obtain⟨q1,q2⟩:=hlive b2 h2 l2;rw[hnew,hm b2 h2]at he;exact q2 (r.inj b2 b h2 hb q1 hlb he)
  ·by_cases e:b1=b
   ·subst e;rw[hgetb]at hg;cases hg
   ·rw[hget b1 h1 e]at hg;rw[hm b1 h1]at he;rcases h2 with rfl |h2
    ·rw[hnew]at he;exact r.inp b1 t h1 hg ⟨b,hb,hlb,he⟩
    ·rw[hm b2 h2]at he;exact r.inp b1 t h1 hg ⟨b2,h2,(hlive b2 h2 l2).1,he⟩
theorem Rel.heap {W:World} (R:Rel P m D h w) (hW:W.heap=w.heap):Rel P m D h W :=
 ⟨⟨λb hb=>by
  obtain⟨x,hx,hr,hd⟩:=R.blk b hb
  exact⟨x,hx,hr.congr (λ_ _=>rfl) hd (by rw[hW]),hd⟩,R.inj,R.lt,R.inp⟩,λp hp=>by
  obtain⟨g,h1,h2,h3⟩:=R.gl p hp
  exact⟨g,h1,(Y1 h1 h2).2 (by rw[hW]),h3⟩⟩
theorem qzH {ct:CT} {cs:List AV} (hct:ct.toList=cs) {t:TypeId} {w0:World} {cap n:Nat} {rest:Array Value} (hsz:cellsOf? P t=some n) (hc:cs.length≤cap*n) (hr:rest.size=cap*n-cs.length)
  (hw0:w0.heap=w.heap.push (.cells ((cvs m cs).toArray++rest) t)):BlkR P m (.cells ct t true) (w.heap.size,cap) w0:=by
 subst hct;refine⟨rest.toList,(0,0),?_,(λhh=>by cases hh),(λi _=>by simp),λ_ k hk=>?_⟩
 ·rw[hw0];simp
 ·rw[hsz]at hk;cases hk;refine⟨hc,?_⟩;show cap*n≤ct.toList.length+rest.toList.length;have hrl:rest.toList.length=rest.size:=Array.length_toList;omega
theorem VI (R:Rel P m D h w) {x:AV} {sz n:Nat} {l:List AV} (hx:inD D x) (e:qjc h sz n x l):(Builtin.firstCells sz n (cv m x)).run P w=.ok (cvs m l).toArray w∧inDs D l:=by
 rcases e with e |⟨b,off,len,cap,opn,c,t,o,rfl,hg,e⟩
 ·exact Xm R hx e
 ·obtain⟨h1,h2,_⟩:=R.readL hx hg e;exact⟨h1,h2⟩
theorem qW4 {cl:Call} (ho:o.op=.call cl) (hc:cl.callee=.builtin .append) (hr:OpV m D ρ r) (R:Rel P m D h w) (e:opK P c o.op r h fin=some (v,h')):OpR P m D h w ((execOp ρ o).run P w) v h':=by
 obtain⟨cs,hx⟩:=wJ (P:=P) (w:=w) (ρ:=ρ) ho hc;rw[ho]at e;simp only[opK,hc]at e
 split at e
 ·rename_i s x t u ts ha hat;simp only[qH]at e;obtain⟨du,hdu,e⟩:=e;have hni:(∀k,du≠.int k)∧∃el z vs vx,P.underlying t=some (.slice el)∧KU P el=some z∧r s=some vs∧r x=some vx∧xx h el z.length vs vx fin=some (v,h'):=by
   split at e
   ·cases e
   ·rename_i hn;simp only[qH]at e;obtain⟨d,hd,e⟩:=e;cases d<;>simp only[reduceCtorEq]at e
    rename_i el;simp only[qH]at e;obtain⟨z,hz,vs,hvs,vx,hvx,e⟩:=e;exact⟨λk hk=>hn k hk,el,z,vs,vx,hd,hz,hvs,hvx,e⟩
  obtain⟨hni,el,z,vs,vx,ht,hz,hvs,hvx,e⟩:=hni;obtain⟨s1,s2⟩:=hr _ _ hvs;obtain⟨x1,x2⟩:=hr _ _ hvx;obtain⟨i,za,hi,hza,rfl,hzl,hone,hby,hsz⟩:=Xz hz;rw[hzl]at hsz e;unfold xx at e;simp only[qH,jY]at e;obtain⟨n,hn,nc,hnc,hnl,e⟩:=e;have hnl:=jo hnl;rw[CT.len_eq]at hnl;have hnew:=qxn hnc;obtain⟨new,hno⟩:∃new,nc.toList=new:=⟨_,rfl⟩;rw[hno]at hnl hnew;have hnd:inDs D new:=(VI R x2 hnew).2;rw[hx,yh ha,yh hat];simp only[List.map_toArray,List.map_cons,List.map_nil,s1,x1];have app:=λ(base:Option Addr) (sLen sCap:Nat) (hb:cv m vs=.slice base sLen sCap)=>qXH (w:=w) (ty:=o.type) (ts:=ts) ht hdu hni hi hza hzl hby hb (NI hn) (λW hW=>(VI (R.heap hW) x2 hnew).1)
  have done:∀{z:Value} {w0:World},(Builtin.append_ (t::u::ts).toArray o.type [cv m vs,cv m vx].toArray).run P w=.ok z w0→
    (builtin .append (t::u::ts).toArray o.type cs [cv m vs,cv m vx].toArray).run P w=.ok (.value z) w0:=by
   intro z w0 hh;show(do pure (Next.value (← Builtin.append_ (t::u::ts).toArray o.type [cv m vs,cv m vx].toArray)):Sem Next).run P w=_;rw[qY hh];rfl
  have store:∀(b off len capv:Nat) (opn:Bool) (rm:Nat) (h1:AH),vs=.slice b off len rm opn→cv m vs=.slice (some ⟨(m b).1,off,none⟩) len capv→len+n≤capv→gV h b (off+len*i.size) new=some h1→
    OpR P m D h w ((builtin .append (t::u::ts).toArray o.type cs [cv m vs,cv m vx].toArray).run P w) (.slice b off (len+n) rm opn) h1:=by
   intro b off len capv opn rm h1 hvs' hcv hle hw;obtain⟨a1,_⟩:=app _ _ _ hcv;subst hvs';obtain⟨w',hrun,hext,hrel⟩:=R.write s2 hnd hw;refine⟨m,D,w',.inl (done ?_),hext,hrel,s2⟩;rw[a1 hle];simp only[];rw[wh,qY hrun];simp only[cv,Value.slice.injEq]at hcv ⊢;obtain⟨_,_,rfl⟩:=hcv;rfl
  have room0:∀(b off len capv:Nat),cv m vs=.slice (some ⟨(m b).1,off,none⟩) len capv→n=0→len≤capv→
    OpR P m D h w ((builtin .append (t::u::ts).toArray o.type cs [cv m vs,cv m vx].toArray).run P w) vs h:=by
   intro b off len capv hcv hn0 hle;obtain⟨a1,_⟩:=app _ _ _ hcv;subst hn0;have:new=[]:=iA omQ;subst this;refine⟨m,D,w,.inl (done ?_),Ext.refl ..,R,s2⟩;rw[a1 omQ,hcv];rfl
  have grow:∀(b off len capv:Nat) (old:List AV),cv m vs=.slice (some ⟨(m b).1,off,none⟩) len capv→D b→¬len+n≤capv→len+n≤67108864→(yv h b off (len*i.size)=some old∨∃c t o,h.get b=some (.cells c t o)∧yt (len*i.size) (vy off c.toList)=some old)→
    ∃cap rest w0,(Builtin.append_ (t::u::ts).toArray o.type [cv m vs,cv m vx].toArray).run P w=.ok (.slice (some ⟨w.heap.size,0,none⟩) (len+n) cap) w0∧
     w0.heap=w.heap.push (.cells ((cvs m (old++new)).toArray++rest) el)∧w0.os=w.os∧w0.tape=w.tape∧w0.output=w.output∧(old++new).length≤cap*i.size∧rest.size=cap*i.size-(old++new).length∧inDs D (old++new):=by
   intro b off len capv old hcv hb hle hsm hold;obtain⟨_,a2⟩:=app _ _ _ hcv;have rd:∀{W:World},Rel P m D h W→(loadCells ⟨(m b).1,off,none⟩ (len*i.size)).run P W=.ok (cvs m old).toArray W∧inDs D old∧old.length=len*i.size:=by
    intro W RW;rcases hold with hold |⟨c,t,o,hg,hold⟩
    ·exact RW.read hb hold
    ·exact RW.readL hb hg hold
   obtain⟨o1,o2,o3⟩:=rd R;obtain⟨cap,rest,c1,c2,c3⟩:=a2 hle hsm (cvs m old).toArray (λW hW=>by rw[hcv];exact(rd (R.heap hW)).1);have hl:(old++new).length=(len+n)*i.size:=by rw[List.length_append,o3,hnl,Nat.add_mul]
   refine⟨cap,rest,_,c3,?_,rfl,rfl,rfl,?_,?_,vB.2 ⟨o2,hnd⟩⟩
   ·simp[YX]
   ·rw[hl];exact Nat.mul_le_mul_right _ c1
   ·rw[hl,c2,Nat.sub_mul]
  unfold yc at e;simp only[hno]at e
  split at e
  ·--nil
   obtain⟨a1,a2⟩:=app none 0 0 rfl;cases hn0:Nat.beq n 0
   ·have hn0':=vq hn0;rw[hn0]at e;simp only[cond_false,jY,qU]at e;obtain⟨hsm,rfl,rfl⟩:=e;have hsm:=zQ hsm;obtain⟨cap,rest,c1,c2,c3⟩:=a2 omQ omQ #[] (λW hW=>by simp[Builtin.firstCells];rfl);have hrest:rest.size=cap*i.size-new.length:=by rw[c2,hnl,Nat.zero_add,Nat.sub_mul]
    have hcapn:new.length≤cap*i.size:=by rw[hnl];exact Nat.mul_le_mul_right _ omQ
    obtain⟨ex,re⟩:=R.new (.cells nc el true) _ cap (w0:={ w with drawn:=w.drawn+1,heap:=w.heap.push (.cells (#[]++(cvs m new).toArray++rest) el) }) rfl rfl rfl rfl (by simp only[inDB,hno];exact hnd)
     (qzH hno hsz hcapn hrest osQ)
    refine⟨_,_,_,.inl (done ?_),ex,re,.inl rfl⟩;rw[c3];simp[cv]
   ·have hn0':=jo hn0;subst hn0';rw[hn0]at e;simp only[cond_true,qU]at e;obtain⟨rfl,rfl⟩:=e;refine⟨m,D,w,.inl (done ?_),Ext.refl ..,R,trivial⟩;rw[a1 omQ];rfl
  ·rename_i b off len cap;cases hle:Nat.ble (len+n) cap
   ·have hle':=Gq hle;rw[hle]at e;simp only[cond_false,jY,qH]at e;obtain⟨hsm,old,hold,e⟩:=e;have hsm:=zQ hsm;simp only[qU]at e;obtain⟨rfl,rfl⟩:=e;obtain⟨c',rest,w0,g1,g2,g3,g4,g5,g6,g7,g8⟩:=grow b off len cap old rfl s2 omQ hsm (.inl hold);have hc2:(bif Nat.beq len 0 then nc else CT.ofList (old++new)).toList=old++new:=by
     cases hl0:Nat.beq len 0
     ·exact CT.ofList_ok _
     ·have h0:=jo hl0;have ho:old=[]:=iA (by have:=(R.read s2 hold).2.2;rw[h0,Nat.zero_mul]at this;exact this);rw[ho];exact hno
    obtain⟨ex,re⟩:=R.new (.cells (bif Nat.beq len 0 then nc else CT.ofList (old++new)) el true) _ c' g2 g3 g4 g5 (by simp only[inDB,hc2];exact g8) (qzH hc2 hsz g6 g7 g2);refine⟨_,_,_,.inl (done ?_),ex,re,.inl rfl⟩;rw[g1];simp[cv]
   ·have hle':=zQ hle;rw[hle]at e;simp only[cond_true]at e;cases hn0:Nat.beq n 0
    ·rw[hn0]at e;simp only[cond_false,qH,qU]at e;obtain⟨h1,hw,rfl,rfl⟩:=e;exact store b off len cap false cap h1 rfl rfl hle' hw
    ·have hn0':=jo hn0;rw[hn0]at e;simp only[cond_true,qU]at e;obtain⟨rfl,rfl⟩:=e;exact room0 b off len cap rfl hn0' omQ
  ·rename_i b off len i0
   split at e
   ·rename_i cells e' hg;simp only[jY,Bool.and_eq_true]at e;obtain⟨⟨f1,f2,f3,f4⟩,e⟩:=e;have f1:=zQ f1;have f2:=jo f2;have f3:=jo f3;have f4:=zQ f4;rw[CT.len_eq]at f4;subst f3;obtain⟨rest,fr,k1,k2,k3,k4,k5⟩:=R.cells s2 hg;obtain⟨k4a,k4b⟩:=k4 rfl _ hsz;have hroom:i0+len≤(m b).2:=by
     have:(i0+len)*i.size≤(m b).2*i.size:=by rw[Nat.add_mul];omega
     exact Nat.le_of_mul_le_mul_right this f1
    cases hn0:Nat.beq n 0
    ·have hn0':=vq hn0;rw[hn0]at e;simp only[cond_false]at e;cases hin:Nat.ble (off+(len+n)*i.size) cells.len
     ·have hin':=Gq hin;rw[CT.len_eq]at hin';rw[hin]at e;simp only[cond_false,jY,qH,Bool.and_eq_true,qU]at e;obtain⟨⟨g0,gs,hnone⟩,oldc,hold0,rfl,rfl⟩:=e;have hold:=CT.pre_ok hold0;obtain⟨old,hco⟩:∃old,oldc.toList=old:=⟨_,rfl⟩;rw[hco]at hold;have happ:(oldc.app new).toList=old++new:=by rw[CT.app_ok,hco]
      have g0:=jo g0;have gs:=zQ gs;subst g0;simp only[Nat.zero_mul]at f2;subst f2;by_cases hle:len+n≤(m b).2
      ·--it grows where it lies
       have hlr:(len+n)*i.size≤(m b).2*i.size:=Nat.mul_le_mul_right _ hle;have hln:(len+n)*i.size=len*i.size+n*i.size:=Nat.add_mul ..;obtain⟨w',q1,q2⟩:=Xx (P:=P) (0+len*i.size) (cvs m new) 0 w _ k1 (by simp;omega) (qQF m hnone) (by simpa using k3);obtain⟨a1,_⟩:=app _ _ _ rfl;have hold':old=cells.toList.take (len*i.size)∧len*i.size≤cells.toList.length:=w9 hold;obtain⟨o1,o2⟩:=hold';have hol:old.length=len*i.size:=by rw[o1,List.length_take];omega
       have hx':inDB D (.cells (oldc.app new) el true):=by simp only[inDB,happ];rw[o1];exact vB.2 ⟨JW _ k5,hnd⟩
       obtain⟨ex,re⟩:=R.adopt b (.cells (oldc.app new) el true) s2 (UF hg trivial) q2.size q2.other q2.os q2.tape q2.output hx' (by
        simp only[BlkR,happ];refine⟨(cvs m cells.toList++rest).drop ((len+n)*i.size),fr,?_,(λhh=>by cases hh),?_,λ_ k hk=>?_⟩
        ·rw[q2.at_]
         congr 2
         have e1:(cvs m cells.toList++rest).take (0+len*i.size+0)=cvs m old:=by rw[o1,zl,zl,List.take_append_of_le_length (by simp;omega)];simp[List.map_take]
         have e2:0+len*i.size+0+(cvs m new).length=(len+n)*i.size:=by rw[cvs_len,hnl,hln];omega
         rw[e1,e2,YX]
        ·intro j hj;apply k3 j;simp only[List.length_append,List.length_drop,cvs_len,hol,hnl]at hj;omega
        ·rw[hsz]at hk;cases hk;constructor
         ·rw[List.length_append,hol,hnl];show _≤(m b).2*i.size;omega
         ·show(m b).2*i.size≤(old++new).length+((cvs m cells.toList++rest).drop _).length;simp only[List.length_append,List.length_drop,cvs_len,hol,hnl]
          omega)
       refine⟨_,_,w',.inl (done ?_),ex,re,.inl rfl⟩;rw[a1 (by simpa using hle)];simp only[];rw[wh,qY q1];simp[cv]
      ·obtain⟨c',rest',w0,g1,g2,g3,g4,g5,g6,g7,g8⟩:=grow b 0 len ((m b).2-0) old rfl s2 omQ gs (.inr ⟨_,_,_,hg,hold⟩);obtain⟨ex1,re1⟩:=R.kill b s2;obtain⟨ex,re⟩:=re1.new (.cells (oldc.app new) _ true) _ c' g2 g3 g4 g5 (by simp only[inDB,happ];exact g8) (qzH happ hsz g6 g7 g2);refine⟨_,_,_,.inl (done ?_),ex1.trans ex,re,.inl rfl⟩;rw[g1];simp[cv]
     ·have hin':=zQ hin;rw[CT.len_eq]at hin';rw[hin]at e;simp only[cond_true,qH,qU]at e;obtain⟨h1,hw,rfl,rfl⟩:=e;refine store b off len ((m b).2-i0) true i0 h1 rfl rfl ?_ hw;have:(i0+(len+n))*i.size≤(m b).2*i.size:=by rw[Nat.add_mul];omega
      have:=Nat.le_of_mul_le_mul_right this f1;omega
    ·have hn0':=jo hn0;rw[hn0]at e;simp only[cond_true,qU]at e;obtain⟨rfl,rfl⟩:=e;exact room0 b off len ((m b).2-i0) rfl hn0' omQ
   ·cases e
  ·cases e
 ·cases e
end Go.Ae
namespace Go.Ae
open Go
variable {P:Program} {m:Mp} {D:Nat→Prop} {h h':AH} {w:World} {c:CV} {ρ:Operand→Value} {r:Operand→Option AV} {o:Oper} {v:AV}
theorem qk2 {cl:Call} (ho:o.op=.call cl) (hc:cl.callee=.builtin .copy) (hr:OpV m D ρ r) (R:Rel P m D h w) (e:opK P c o.op r h fin=some (v,h')):OpR P m D h w ((execOp ρ o).run P w) v h':=by
 obtain⟨cs,hx⟩:=wJ (P:=P) (w:=w) (ρ:=ρ) ho hc;rw[ho]at e;simp only[opK,hc]at e
 split at e
 ·rename_i s x t ts ha hat;simp only[qH]at e;obtain⟨d,hd,e⟩:=e;cases d<;>simp only[reduceCtorEq]at e
  rename_i el;simp only[qH]at e;obtain⟨sz,hsz,vs,hvs,vx,hvx,e⟩:=e;obtain⟨s1,s2⟩:=hr _ _ hvs;obtain⟨x1,x2⟩:=hr _ _ hvx;unfold Yc at e;simp only[qH]at e;obtain⟨n,hn,k,hk,l,hl,e⟩:=e;obtain⟨l1,l2⟩:=Xm R x2 hl;rw[hx,yh ha,yh hat];simp only[List.map_toArray,List.map_cons,List.map_nil,s1,x1];have done:∀{z:Value} {w0:World},(Builtin.copy_ (t::ts).toArray o.type [cv m vs,cv m vx].toArray).run P w=.ok z w0→
    (builtin .copy (t::ts).toArray o.type cs [cv m vs,cv m vx].toArray).run P w=.ok (.value z) w0:=by
   intro z w0 hh;show(do pure (Next.value (← Builtin.copy_ (t::ts).toArray o.type [cv m vs,cv m vx].toArray)):Sem Next).run P w=_;rw[qY hh];rfl
  have body:∀base dCap,cv m vs=.slice base k dCap→(Builtin.copy_ (t::ts).toArray o.type [cv m vs,cv m vx].toArray).run P w=
    (do (match(generalizing:=false) base with |some a=>storeCells a (cvs m l) |none=>pure ());pure (goInt (Nat.min n k)):Sem Value).run P w:=by
   intro base dCap hb;unfold Builtin.copy_;simp only[List.getElem?_toArray,List.getElem?_cons_zero,List.getElem?_cons_succ];rw[qY (Ae.run_underlying hd)];simp only[hb];rw[qY (NI hn)];rw[qY (Ae.run_sizeOf hsz)];rw[qY l1];cases base<;>rfl
  split at e
  ·rename_i b off len cp opn;simp only[Qz,Option.some.injEq]at hk;subst hk;cases h0:Nat.beq (Nat.min n len) 0
   ·rw[h0]at e;simp only[cond_false,qH,qU]at e;obtain⟨h1,hw,rfl,rfl⟩:=e;obtain⟨w',hrun,hext,hrel⟩:=R.write s2 l2 hw;refine⟨m,D,w',.inl (done ?_),hext,hrel,trivial⟩;rw[body _ _ rfl];simp only[];rw[qY hrun];rfl
   ·have h0':=jo h0;rw[h0]at e;simp only[cond_true,qU]at e;obtain⟨rfl,rfl⟩:=e;refine⟨m,D,w,.inl (done ?_),Ext.refl ..,R,trivial⟩;rw[body _ _ rfl];have hl0:l=[]:=by
     rw[h0']at hl;cases vx<;>simp only[wX,reduceCtorEq]at hl
     ·simp[Zg]at hl;exact hl
     ·have:=(R.read x2 hl).2.2;exact iA (by simpa using this)
     ·simp at hl;exact hl
     ·rw[jY]at hl;exact(Option.some.inj hl.2).symm
     ·rw[jY]at hl;exact(Option.some.inj hl.2).symm
    subst hl0;simp only[cvs,h0'];rfl
  ·simp only[qU]at e;obtain⟨rfl,rfl⟩:=e;simp only[Qz,Option.some.injEq]at hk;subst hk;refine⟨m,D,w,.inl (done ?_),Ext.refl ..,R,trivial⟩;rw[body none 0 rfl];simp only[];show Result.ok (goInt ((Nat.min n 0:Nat):Int)) w=_;rw[show Nat.min n 0=0 from Nat.min_zero n];rfl
  ·cases e
 ·cases e
theorem qZa {l:List AV} {s:List UInt8} (e:Qn l=some s):∃ns:List Int,cvs m l=ns.map (Value.int .u8)∧∀acc:ByteArray,ns.foldl (λr n=>r.push (UInt8.ofNat n.toNat)) acc=⟨acc.data++s.toArray⟩:=by
 induction l generalizing s with
 |nil=>simp[Qn]at e;subst e;exact⟨[],rfl,λacc=>by simp⟩
 |cons a l ih=>
  unfold Qn at e
  split at e
  ·rename_i heq;cases heq
  ·rename_i n r heq;cases heq;simp only[Option.bind_eq_some_iff]at e;obtain⟨t,ht,e⟩:=e;cases e;obtain⟨ns,h1,h2⟩:=ih ht;refine⟨.ofNat n::ns,by simp[cvs,cv,h1],λacc=>?_⟩;simp only[List.foldl_cons,h2];show ByteArray.mk ((acc.push (UInt8.ofNat n)).data++t.toArray)=_
   congr 1
   rw[ByteArray.data_push];apply Array.ext';simp
  ·cases e
theorem jQu {ct:CT} {cs:List AV} (hct:ct.toList=cs) {t:TypeId} {w0:World} {cap n:Nat} {rest:Array Value} (hsz:cellsOf? P t=some n) (hc:cs.length≤cap*n) (hr:rest.size=cap*n-cs.length)
  (hw0:w0.heap=w.heap.push (.cells ((cvs m cs).toArray++rest) t (cs.length+rest.size,cs.length+rest.size+1))):BlkR P m (.cells ct t true) (w.heap.size,cap) w0:=by
 subst hct;have hrl:rest.toList.length=rest.size:=Array.length_toList;refine⟨rest.toList,(ct.toList.length+rest.size,ct.toList.length+rest.size+1),?_,(λhh=>by cases hh),(λi hi=>by simp only;omega),λ_ k hk=>?_⟩
 ·rw[hw0];simp
 ·rw[hsz]at hk;cases hk;refine⟨hc,?_⟩;show cap*n≤ct.toList.length+rest.toList.length;omega
theorem qwU {s d:TypeId} {x:Operand} (ho:o.op=.convert s d x) (hr:OpV m D ρ r) (R:Rel P m D h w) (e:opK P c o.op r h fin=some (v,h')):OpR P m D h w ((execOp ρ o).run P w) v h':=by
 rw[ho]at e;simp only[opK,qH]at e;obtain⟨a,ha,ds,hds,dd,hdd,e⟩:=e;obtain⟨a1,a2⟩:=hr _ _ ha;simp only[execOp,ho,a1];cases dd<;>simp only[reduceCtorEq]at e
 case int k=>
  cases ds<;>simp only[reduceCtorEq]at e
  unfold vi at e
  split at e
  ·simp only[qU]at e;obtain⟨rfl,rfl⟩:=e;refine jn R ?_ trivial;unfold convert;rw[qY (Ae.run_underlying hds),qY (Ae.run_underlying hdd)];simp only[cv,Jy];rfl
  ·cases e
 case string=>
  cases ds<;>simp only[reduceCtorEq]at e
  case string=>
   unfold XC at e
   split at e
   ·simp only[qU]at e;obtain⟨rfl,rfl⟩:=e;refine jn R ?_ trivial;unfold convert;rw[qY (Ae.run_underlying hds),qY (Ae.run_underlying hdd)];simp only[cv];rfl
   ·cases e
  case slice el=>
   simp only[qH]at e;obtain⟨de,hde,e⟩:=e;have hu8:de=.int .u8∧Vv h a (λz=>fin z h)=some (v,h'):=by
    split at e
    ·exact⟨rfl,e⟩
    ·cases e
   obtain⟨rfl,e2⟩:=hu8;unfold Vv at e2
   split at e2
   ·simp only[qU]at e2;obtain⟨rfl,rfl⟩:=e2;refine jn R ?_ trivial;unfold convert;rw[qY (Ae.run_underlying hds),qY (Ae.run_underlying hdd)];simp only[cv];rw[qY (Ae.run_underlying hde)];rfl
   ·rename_i b off len cp opn;simp only[qH,qU]at e2;obtain⟨cs,hcs,q,hq,rfl,rfl⟩:=e2;obtain⟨r1,r2,r3⟩:=R.read a2 hcs;obtain⟨ns,n1,n2⟩:=qZa (m:=m) hq;refine jn R ?_ trivial;obtain⟨cc,hcc⟩:∃cc,cv m (.slice b off len cp opn)=.slice (some ⟨(m b).1,off,none⟩) len cc:=⟨_,rfl⟩;rw[hcc];rw[run_convert_bytes_string w s d el _ _ _ hds hde hdd];rw[run_bytesToString w _ len _ ns (by rw[r1,n1]),n2];simp[cv]
   ·cases e2
 case slice el=>
  cases ds<;>simp only[reduceCtorEq]at e
  simp only[qH]at e;obtain⟨de,hde,e⟩:=e;have hu8:de=.int .u8∧∃sz,cellsOf? P el=some sz∧Nat.beq sz 1=true∧ZH h el a fin=some (v,h'):=by
   split at e
   ·simp only[qH,jt]at e;obtain⟨sz,h1,h2,h3⟩:=e;exact⟨rfl,sz,h1,h2,h3⟩
   ·cases e
  obtain⟨rfl,sz,hsz,hsz1,e2⟩:=hu8;have hsz1:=jo hsz1;subst hsz1;unfold ZH at e2
  split at e2
  ·rename_i s';simp only[jY,qU]at e2;obtain⟨hsm,rfl,rfl⟩:=e2;have hsm:=zQ hsm;have hs1:(ByteArray.mk s'.toArray).size=s'.length:=by simp[ByteArray.size]
   have hcs:cvs m (s'.map λ(c:UInt8)=>AV.int .u8 (.ofNat c.toNat))=s'.map λb=>Value.int .u8 b.toNat:=by rw[zl,List.map_map];rfl
   have hq:∃cap,s'.length≤cap∧(choose (.appendCap (ByteArray.mk s'.toArray).size 0 el)).run P w=.ok cap { w with drawn:=w.drawn+1 }:=by refine⟨(Question.appendCap (ByteArray.mk s'.toArray).size 0 el).cut (w.tape w.drawn (.appendCap (ByteArray.mk s'.toArray).size 0 el)),?_,rfl⟩;simp only[Question.cut,hs1];omega
   obtain⟨cap,hcap,hch⟩:=hq;have hlen:(s'.map λ(c:UInt8)=>AV.int .u8 (.ofNat c.toNat)).length=s'.length:=by simp
   generalize hC:((cvs m (s'.map λ(c:UInt8)=>AV.int .u8 (.ofNat c.toNat))).toArray++Array.replicate (cap-s'.length) (Value.int .u8 0))=C;have hCs:C.size=cap:=by rw[← hC];simp;omega
   obtain⟨ex,re⟩:=R.new (.cells (CT.ofList (s'.map λ(c:UInt8)=>AV.int .u8 (.ofNat c.toNat))) el true) (.cells C el (C.size,C.size+1)) cap
    (w0:={ w with drawn:=w.drawn+1,heap:=w.heap.push (.cells C el (C.size,C.size+1)) }) rfl rfl rfl rfl
    (by simp only[inDB,CT.ofList_ok];rw[xC];intro x hx;rw[List.mem_map]at hx;obtain⟨y,_,rfl⟩:=hx;trivial)
    (jQu (CT.ofList_ok _) (rest:=Array.replicate (cap-s'.length) (Value.int .u8 0)) hsz (by rw[hlen];omega) osQ (by
     rw[hC];have:(s'.map λ(c:UInt8)=>AV.int .u8 (.ofNat c.toNat)).length+(Array.replicate (cap-s'.length) (Value.int .u8 0)).size=C.size:=by rw[hlen,hCs];simp;omega
     rw[this]))
   refine⟨_,_,_,.inl ?_,ex,re,.inl rfl⟩;have conv:(convert s d (cv m (.str s'))).run P w=(Conv.stringToBytes el ⟨s'.toArray⟩).run P w:=by unfold convert;rw[qY (Ae.run_underlying hds),qY (Ae.run_underlying hdd)];simp only[cv];rw[qY (Ae.run_underlying hde)]
   have s2b:(Conv.stringToBytes el ⟨s'.toArray⟩).run P w=.ok (.slice (some ⟨w.heap.size,0,none⟩) s'.length cap) { w with drawn:=w.drawn+1,heap:=w.heap.push (.cells C el (C.size,C.size+1)) }:=by
    unfold Conv.stringToBytes;rw[qY hch];have hrow:((ByteArray.mk s'.toArray).data.map λb=>Value.int .u8 b.toNat)++Array.replicate (cap-(ByteArray.mk s'.toArray).size) (Value.int .u8 0)=C:=by rw[← hC,hcs,hs1];simp
    simp only[hrow];rw[qY (wS el C)];have hmark:(markStringish ⟨w.heap.size,0,none⟩).run P { w with drawn:=w.drawn+1,heap:=w.heap.push (.cells C el) }=.ok () { w with drawn:=w.drawn+1,heap:=w.heap.push (.cells C el (C.size,C.size+1)) }:=by
     unfold markStringish;have hsh:(shape w.heap.size).run P { w with drawn:=w.drawn+1,heap:=w.heap.push (.cells C el) }=.ok (some (el,C.size)) { w with drawn:=w.drawn+1,heap:=w.heap.push (.cells C el) }:=by show Result.ok (World.shape? _ _) _=_;simp[World.shape?]
     rw[qY hsh];show Result.ok () (World.freeze _ _ _)=_;simp only[World.freeze]
     congr 1
     simp only[Nat.one_ne_zero,if_false]
     congr 1
     apply Array.ext
     ·simp
     ·intro j h1 h2;simp only[Array.getElem_modify];by_cases hj:w.heap.size=j
      ·subst hj;simp
      ·rw[iQ hj];have:j<w.heap.size:=by simp at h2;omega
       simp[Array.getElem_push,this]
    rw[qY hmark,hs1];rfl
   rw[qY (conv.trans s2b)];simp[cv]
  ·cases e2
theorem qx3 {t:TypeId} {x:Operand} (ho:o.op=.range t x) (hr:OpV m D ρ r) (R:Rel P m D h w) (e:opK P c o.op r h fin=some (v,h')):OpR P m D h w ((execOp ρ o).run P w) v h':=by
 rw[ho]at e;simp only[opK,qH]at e;obtain⟨d,hd,e⟩:=e;cases d<;>simp only[reduceCtorEq]at e
 simp only[qH]at e;obtain⟨a,ha,e⟩:=e;obtain⟨a1,a2⟩:=hr _ _ ha;simp only[execOp,ho,a1];unfold Xt at e
 split at e
 ·rename_i s;simp only[qU]at e;obtain⟨rfl,rfl⟩:=e;refine MG R (b:=.iter s 0) (ob_:=.stringIter ⟨s.toArray⟩ 0) (room:=0) (w0:={ w with heap:=w.heap.push (.stringIter ⟨s.toArray⟩ 0) }) ?_ rfl rfl rfl rfl trivial ?_ (.inl rfl)
  ·unfold Instr.range;rw[qY (Ae.run_underlying hd)];simp only[cv];rw[qY (show(pure (Obj.stringIter ⟨s.toArray⟩ 0):Sem Obj).run P w=.ok _ w from rfl)];rw[qY (show(newObj (.stringIter ⟨s.toArray⟩ 0)).run P w=.ok w.heap.size { w with heap:=w.heap.push (.stringIter ⟨s.toArray⟩ 0) }from rfl)];simp
  ·show(w.heap.push _)[w.heap.size]? =_;simp
 ·cases e
theorem qgc {t:Operand} {b:Bool} (ho:o.op=.next t b) (hr:OpV m D ρ r) (R:Rel P m D h w) (e:opK P c o.op r h fin=some (v,h')):OpR P m D h w ((execOp ρ o).run P w) v h':=by
 rw[ho]at e;simp only[opK,jt,qH]at e;obtain⟨rfl,a,ha,e⟩:=e;obtain⟨a1,a2⟩:=hr _ _ ha;simp only[execOp,ho,a1];unfold K6 at e
 split at e
 ·rename_i q
  split at e
  ·rename_i s pos hg;obtain⟨x,hx,hbr,_⟩:=R.blk q a2;rw[hg]at hx;cases hx;have hheap:w.heap[(m q).1]? =some (.stringIter ⟨s.toArray⟩ pos):=hbr;have hget:(getObj (m q).1).run P w=.ok (.stringIter ⟨s.toArray⟩ pos) w:=by
    simp only[getObj,Sem.run,hheap]
   have hs1:(ByteArray.mk s.toArray).size=s.length:=by simp[ByteArray.size]
   cases hp:Nat.ble (pos+1) s.length
   ·have hp':=Gq hp;rw[hp]at e;simp only[cond_false,qU]at e;obtain⟨rfl,rfl⟩:=e;refine jn R ?_ ⟨trivial,trivial⟩;unfold Instr.next;simp only[cv];rw[qY hget];simp only[];rw[iQ (by rw[hs1];omega)];rfl
   ·have hp':=zQ hp;rw[hp]at e;simp only[cond_true,qU]at e;obtain⟨rfl,rfl⟩:=e;have hlt:(m q).1<w.heap.size:=(Array.getElem?_eq_some_iff.1 hheap).1;have hset:(setObj (m q).1 (.stringIter ⟨s.toArray⟩ (pos+(Utf8.decode ⟨s.toArray⟩ pos).2))).run P w=.ok () { w with heap:=w.heap.setIfInBounds (m q).1 (.stringIter ⟨s.toArray⟩ (pos+(Utf8.decode ⟨s.toArray⟩ pos).2)) }:=by
     simp only[setObj,Sem.run,hheap]
    obtain⟨ex,re⟩:=R.put q (.iter s (pos+(Utf8.decode ⟨s.toArray⟩ pos).2)) (w0:={ w with heap:=w.heap.setIfInBounds (m q).1 (.stringIter ⟨s.toArray⟩ (pos+(Utf8.decode ⟨s.toArray⟩ pos).2)) }) a2 (UF hg trivial) osQ
     (λc hc=>by simp[Array.getElem?_setIfInBounds_ne (λe=>hc e.symm)]) rfl rfl rfl trivial (by
      show(w.heap.setIfInBounds _ _)[(m q).1]? =_
      simp[hlt])
    refine⟨m,D,_,.inl ?_,ex,re,⟨trivial,trivial,trivial,trivial⟩⟩;have:(Instr.next (cv m (.ptr q 0)) true o.type).run P w=.ok (cv m (.tup [.bool true,.int .i64 (.ofNat pos),.int .i32 (Utf8.decode ⟨s.toArray⟩ pos).1])) { w with heap:=w.heap.setIfInBounds (m q).1 (.stringIter ⟨s.toArray⟩ (pos+(Utf8.decode ⟨s.toArray⟩ pos).2)) }:=by unfold Instr.next;simp only[cv];rw[qY hget];simp only[];rw[iJ (by rw[hs1];omega)];rw[qY hset];rfl
    rw[qY this];rfl
  ·cases e
 ·cases e
end Go.Ae
namespace Go.Ae
open Go
variable {P:Program} {m:Mp} {D:Nat→Prop} {h h':AH} {w:World} {c:CV} {ρ:Operand→Value} {r:Operand→Option AV} {o:Oper} {v:AV}
theorem Yx {t:TypeId} (e:qZT P t=true):∃kt et,P.underlying t=some (.map kt et)∧P.underlying kt=some (.int .i64)∧zero? P et=some (.int .i64 (.ofNat 0)):=by
 unfold qZT at e
 split at e
 ·rename_i kt et h1
  split at e
  ·rename_i h2 h3 h4;exact⟨kt,et,h1,h2,h4⟩
  ·cases e
 ·cases e
theorem kf {b:Bool} {kt:TypeId} {x:Int} (hk:P.underlying kt=some (.int .i64)):(Instr.checkKey b 10000 kt (.int .i64 x)).run P w=.ok () w:=by show(Instr.checkKey b (9999+1) kt (.int .i64 x)).run P w=_;unfold Instr.checkKey;rw[qY (Ae.run_underlying hk)];rfl
theorem qxB (a b:Int):ieq a b=(a==b):=by rw[← ZV];exact(by
 cases a with
 |ofNat a=>cases b with
  |ofNat b=>
   show Nat.beq a b=(Int.ofNat a==Int.ofNat b);by_cases h:a=b
   ·subst h;rw[Nat.beq_refl];simp
   ·rw[xR h];symm;simp;omega
  |negSucc b=>rfl
 |negSucc a=>cases b with
  |ofNat b=>rfl
  |negSucc b=>
   show Nat.beq a b=(Int.negSucc a==Int.negSucc b);by_cases h:a=b
   ·subst h;rw[Nat.beq_refl];simp
   ·rw[xR h];symm;simp;omega)
theorem qyh {x:Int}:∀(l:List (Int×Int×Nat)) (i:Nat),Instr.findNow (.int .i64) (.int .i64 x) (l.map zr) i=some ((kb x l i).map λe=>(e.1,Value.int .i64 e.2.1)):=by
 intro l
 induction l with
 |nil=>intro i;rfl
 |cons e l ih=>
  intro i
  show(match Instr.sameNow (.int .i64) (.int .i64 x) (zr e).key with
   |some true=>some (some (i,(zr e).val))
   |some false=>Instr.findNow (.int .i64) (.int .i64 x) (l.map zr) (i+1)
   |none=>none)=_
  have hs:Instr.sameNow (.int .i64) (.int .i64 x) (zr e).key=some (x==e.1):=by show(if IntKind.i64=IntKind.i64 then some (x==e.1)else none)=_;rw[iJ rfl]
  rw[hs];unfold kb;rw[qxB];cases hb:(x==e.1)
  ·simp only[cond_false];exact ih (i+1)
  ·simp only[cond_true];rfl
theorem Qt {kt:TypeId} {x:Int} {l:List (Int×Int×Nat)} (hk:P.underlying kt=some (.int .i64)):(Instr.findKey kt (.int .i64 x) (l.map zr).toArray.toList).run P w=.ok ((kb x l 0).map λe=>(e.1,Value.int .i64 e.2.1)) w:=by unfold Instr.findKey;rw[qY (Ae.run_underlying hk)];simp only[qyh];rfl
theorem QB {b:Nat} {l:List (Int×Int×Nat)} {q:Nat} (hh:w.heap[b]? =some (.map (l.map zr).toArray q)):(getObj b).run P w=.ok (.map (l.map zr).toArray q) w:=by simp only[getObj,Sem.run,hh]
theorem gg {b:Nat} {es:Array MapEntry} {q:Nat} {o2:Obj} (hh:w.heap[b]? =some (.map es q)):(setObj b o2).run P w=.ok () { w with heap:=w.heap.setIfInBounds b o2 }:=by simp only[setObj,Sem.run,hh]
theorem MW {x:Int}:∀{l:List (Int×Int×Nat)} {i:Nat} {e:Nat×Int×Nat},kb x l i=some e→i≤e.1∧l[e.1-i]? =some (x,e.2):=by
 intro l
 induction l with
 |nil=>intro i e h;cases h
 |cons a l ih=>
  intro i e h;unfold kb at h;rw[qxB]at h;cases hb:(x==a.1)
  ·rw[hb]at h;simp only[cond_false]at h;obtain⟨h1,h2⟩:=ih h;refine⟨by omega,?_⟩;rw[show e.1-i=(e.1-(i+1))+1 by omega];exact h2
  ·rw[hb]at h;simp only[cond_true,Option.some.injEq]at h;subst h;refine⟨Nat.le_refl _,?_⟩;have:x=a.1:=by simpa using hb
   subst this;simp
theorem X8 (R:Rel P m D h w) {b:Nat} {l l2:List (Int×Int×Nat)} {q q2:Nat} (hd:D b) (hg:h.get b=some (.mp l q)) :
  ∃w0,w0={ w with heap:=w.heap.setIfInBounds (m b).1 (.map (l2.map zr).toArray q2) }∧Ext m D h w m D (h.put b (.mp l2 q2)) w0∧Rel P m D (h.put b (.mp l2 q2)) w0:=by
 obtain⟨x,hx,hbr,_⟩:=R.blk b hd;rw[hg]at hx;cases hx;have hheap:w.heap[(m b).1]? =some (.map (l.map zr).toArray q):=hbr;have hlt:(m b).1<w.heap.size:=(Array.getElem?_eq_some_iff.1 hheap).1
 refine⟨_,rfl,R.put b (.mp l2 q2) (w0:={ w with heap:=w.heap.setIfInBounds (m b).1 (.map (l2.map zr).toArray q2) }) hd (UF hg trivial) osQ
  (λc hc=>by simp[Array.getElem?_setIfInBounds_ne (λe=>hc e.symm)]) rfl rfl rfl trivial (by
   show(w.heap.setIfInBounds _ _)[(m b).1]? =_
   simp[hlt])⟩
theorem qX9 {t:TypeId} {hint:Option Operand} (ho:o.op=.makeMap t hint) (R:Rel P m D h w) (e:opK P c o.op r h fin=some (v,h')):OpR P m D h w ((execOp ρ o).run P w) v h':=by
 rw[ho]at e;simp only[opK]at e;cases hint with
 |some x=>cases e
 |none=>
  simp only[jt]at e;obtain⟨_,e⟩:=e;unfold Qj at e;simp only[qU]at e;obtain⟨rfl,rfl⟩:=e;simp only[execOp,ho];refine MG R (b:=.mp [] 0) (ob_:=.map #[] 0) (room:=0) (w0:={ w with heap:=w.heap.push (.map #[] 0) }) ?_ rfl rfl rfl rfl trivial ?_ (.inl rfl)
  ·show(Instr.makeMap t none).run P w=_;unfold Instr.makeMap;simp only[cv,if_true];rfl
  ·show(w.heap.push _)[w.heap.size]? =_;simp
theorem qju {t:TypeId} {x i:Operand} {ok:Bool} (ho:o.op=.lookup t x i ok) (hr:OpV m D ρ r) (R:Rel P m D h w) (e:opK P c o.op r h fin=some (v,h')):OpR P m D h w ((execOp ρ o).run P w) v h':=by
 rw[ho]at e;simp only[opK,jt,Bool.and_eq_true,Bool.not_eq_true',qH]at e;obtain⟨⟨hm,rfl⟩,a,ha,j,hj,e⟩:=e;obtain⟨kt,et,h1,h2,h3⟩:=Yx hm;obtain⟨a1,a2⟩:=hr _ _ ha;obtain⟨j1,j2⟩:=hr _ _ hj;simp only[execOp,ho,a1,j1];unfold Xd at e
 split at e
 rotate_left
 ·cases e
 rename_i b y
 split at e
 rotate_left
 ·cases e
 rename_i l q hg;obtain⟨x',hx',hbr,_⟩:=R.blk b a2;rw[hg]at hx';cases hx';have hheap:w.heap[(m b).1]? =some (.map (l.map zr).toArray q):=hbr;have key:∀z:Int,(match kb y l 0 with |some e=>e.2.1 |none=>0)=z→(Instr.lookup t (cv m (.mapv b)) (cv m (.int .i64 y)) false).run P w=.ok (.int .i64 z) w:=by
  intro z hz;unfold Instr.lookup;rw[qY (Ae.run_underlying h1)];simp only[cv];rw[qY (QB hheap)];simp only[];rw[qY (show(pure (l.map zr).toArray:Sem (Array MapEntry)).run P w=.ok (l.map zr).toArray w from rfl)];rw[qY (kf h2),qY (Qt h2)];cases hf:kb y l 0 with
  |some e=>rw[hf]at hz;simp only[Option.map_some];rw[← hz];rfl
  |none=>rw[hf]at hz;simp only[Option.map_none];have hzv:=(x7 (w:=w) (m:=m) (D:=D) h3).1;rw[qY hzv];rw[← hz];rfl
 split at e
 ·rename_i e1 hf;simp only[qU]at e;obtain⟨rfl,rfl⟩:=e;exact jn R (key e1.2.1 (by rw[hf])) trivial
 ·rename_i hf;simp only[qU]at e;obtain⟨rfl,rfl⟩:=e;exact jn R (key 0 (by rw[hf])) trivial
theorem qJa {es:Array MapEntry} {i:Nat} {f:MapEntry→MapEntry} (h:∀e,es[i]? =some e→f e=e):es.modify i f=es:=by
 apply Array.ext_getElem?;intro j;rw[Array.getElem?_modify];by_cases e:i=j
 ·subst e;rw[iJ rfl];cases hh:es[i]? with
  |none=>rfl
  |some x=>rw[Option.map_some,h x hh]
 ·rw[iQ e]
theorem qgh {t:TypeId} {x i:Operand} (ho:o.op=.mapEntry t x i) (hr:OpV m D ρ r) (R:Rel P m D h w) (e:opK P c o.op r h fin=some (v,h')):OpR P m D h w ((execOp ρ o).run P w) v h':=by
 rw[ho]at e;simp only[opK,jt,qH]at e;obtain⟨hm,a,ha,j,hj,e⟩:=e;obtain⟨kt,et,h1,h2,h3⟩:=Yx hm;obtain⟨a1,a2⟩:=hr _ _ ha;obtain⟨j1,j2⟩:=hr _ _ hj;simp only[execOp,ho,a1,j1];unfold Ku at e
 split at e
 rotate_left
 ·cases e
 rename_i b y
 split at e
 rotate_left
 ·cases e
 rename_i l q hg;obtain⟨x',hx',hbr,_⟩:=R.blk b a2;rw[hg]at hx';cases hx';have hheap:w.heap[(m b).1]? =some (.map (l.map zr).toArray q):=hbr
 have start:∀{z:Value} {w0:World},((do
   match(kb y l 0).map λe=>(e.1,Value.int .i64 e.2.1)with
   |some (i,v)=>
    let key ← Instr.keyThatStays ((((l.map zr).toArray[i]?).map (·.key)).getD (.int .i64 y)) (.int .i64 y)
    setObj (m b).1 (.map ((l.map zr).toArray.modify i λe=>{ e with key }) q)
    pure (.tuple #[v,goInt ((((l.map zr).toArray[i]?).map (·.born)).getD 0)])
   |none=>
    let zero ← zeroValue et
    setObj (m b).1 (.map ((l.map zr).toArray.push { key:=.int .i64 y,val:=zero,born:=q }) (q+1))
    pure (.tuple #[zero,goInt q]):Sem Value).run P w=.ok z w0)→(Instr.mapEntry t (cv m (.mapv b)) (cv m (.int .i64 y))).run P w=.ok z w0:=by
  intro z w0 hz;unfold Instr.mapEntry;rw[qY (Ae.run_underlying h1)];simp only[cv];rw[qY (QB hheap)];simp only[];rw[qY (kf h2),qY (Qt h2)];exact hz
 split at e
 ·rename_i e1 hf;simp only[qU]at e;obtain⟨rfl,rfl⟩:=e;obtain⟨_,hat⟩:=MW hf;rw[Nat.sub_zero]at hat;have hat2:(l.map zr).toArray[e1.1]? =some (zr (y,e1.2)):=by
   simp[hat]
  refine jn R (start ?_) ⟨trivial,trivial,trivial⟩;rw[hf];simp only[Option.map_some,hat2,Option.getD_some];have hk:(Instr.keyThatStays (zr (y,e1.2)).key (.int .i64 y)).run P w=.ok (.int .i64 y) w:=by
   unfold Instr.keyThatStays
   rw[iJ (show Instr.sameBits 10000 (zr (y,e1.2)).key (.int .i64 y)=true by
    show((IntKind.i64==IntKind.i64)&&(y==y))=true
    simp)]
   rfl
  rw[qY hk];rw[qJa (λe he=>by rw[hat2]at he;cases he;rfl)];rw[qY (gg hheap)];have hsame:w.heap.setIfInBounds (m b).1 (.map (l.map zr).toArray q)=w.heap:=by
   apply Array.ext_getElem?;intro k;by_cases hk:(m b).1=k
   ·subst hk;have:=(Array.getElem?_eq_some_iff.1 hheap).1;rw[hheap];simp[this]
   ·rw[Array.getElem?_setIfInBounds_ne hk]
  rw[hsame];rfl
 ·rename_i hf;simp only[qU]at e;obtain⟨rfl,rfl⟩:=e;obtain⟨w0,hw0,X,R2⟩:=X8 R (l2:=l++[(y,Int.ofNat 0,q)]) (q2:=q+1) a2 hg;refine⟨m,D,w0,.inl ?_,X,R2,⟨trivial,trivial,trivial⟩⟩;have hzv:=(x7 (w:=w) (m:=m) (D:=D) h3).1
  have:=start (z:=.tuple #[.int .i64 0,goInt q]) (w0:=w0) (by
   rw[hf];simp only[Option.map_none];rw[qY hzv,qY (gg hheap)];have e2:(l.map zr).toArray.push { key:=.int .i64 y,val:=cv m (.int .i64 (.ofNat 0)),born:=q }=((l++[(y,Int.ofNat 0,q)]).map zr).toArray:=by simp[zr,cv]
   rw[e2,hw0];rfl)
  rw[qY this];rfl
theorem qjT {x:Int}:∀{l:List (Int×Int×Nat)} {i j:Nat},qVC x l i=some j→i≤j∧(l.map zr).findIdx? (λe=>(e.born:Int)==x)=some (j-i):=by
 intro l
 induction l with
 |nil=>intro i j h;cases h
 |cons a l ih=>
  intro i j h;unfold qVC at h;rw[qxB]at h;rw[List.map_cons,List.findIdx?_cons];have hb0:((zr a).born:Int)=Int.ofNat a.2.2:=rfl;rw[hb0];cases hb:(Int.ofNat a.2.2==x)
  ·rw[hb]at h;simp only[cond_false]at h;obtain⟨h1,h2⟩:=ih h;refine⟨by omega,?_⟩;rw[h2];simp only[Bool.false_eq_true,if_false,Option.map_some]
   congr 1;omega
  ·rw[hb]at h;simp only[cond_true,Option.some.injEq]at h;subst h;exact⟨Nat.le_refl _,by simp⟩
theorem qjO {y:Int}:∀{l:List (Int×Int×Nat)} {i:Nat},(xB y l i).map zr=(l.map zr).modify i λe=>{ e with val:=.int .i64 y }:=by
 intro l
 induction l with
 |nil=>intro i;cases i<;>rfl
 |cons a l ih=>
  intro i;cases i with
  |zero=>rfl
  |succ i=>show zr a::(xB y l i).map zr=_;rw[ih];rfl
theorem qym {t:TypeId} {x s y:Operand} (ho:o.op=.entryStore t x s y) (hr:OpV m D ρ r) (R:Rel P m D h w) (e:opK P c o.op r h fin=some (v,h')):OpR P m D h w ((execOp ρ o).run P w) v h':=by
 rw[ho]at e;simp only[opK,qH]at e;obtain⟨a,ha,j,hj,u,hu,e⟩:=e;obtain⟨a1,a2⟩:=hr _ _ ha;obtain⟨j1,j2⟩:=hr _ _ hj;obtain⟨u1,u2⟩:=hr _ _ hu;simp only[execOp,ho,a1,j1,u1];unfold qQS at e
 split at e
 rotate_left
 ·cases e
 rename_i b x0 z
 split at e
 rotate_left
 ·cases e
 rename_i l q hg;obtain⟨x',hx',hbr,_⟩:=R.blk b a2;rw[hg]at hx';cases hx';have hheap:w.heap[(m b).1]? =some (.map (l.map zr).toArray q):=hbr
 split at e
 rotate_left
 ·cases e
 rename_i i hf;simp only[qU]at e;obtain⟨rfl,rfl⟩:=e;obtain⟨_,hfi⟩:=qjT hf;rw[Nat.sub_zero]at hfi;obtain⟨w0,hw0,X,R2⟩:=X8 R (l2:=xB z l i) (q2:=q) a2 hg;refine⟨m,D,w0,.inr ⟨?_,rfl⟩,X,R2,trivial⟩;have:(Instr.entryStore t (cv m (.mapv b)) (cv m (.int .i64 x0)) (cv m (.int .i64 z))).run P w=.ok () w0:=by
  unfold Instr.entryStore;simp only[cv];rw[qY (QB hheap)];simp only[];rw[qY (show(asInt (.int .i64 x0)).run P w=.ok x0 w from rfl)];have hfa:(l.map zr).toArray.findIdx? (λe=>(e.born:Int)==x0)=some i:=by rw[List.findIdx?_toArray];exact hfi
  rw[hfa];simp only[];have e2:(l.map zr).toArray.modify i (λe=>{ e with val:=.int .i64 z })=((xB z l i).map zr).toArray:=by rw[qjO,List.modify_toArray]
  rw[e2,hw0];exact gg hheap
 rw[qY this];rfl
theorem qYP {x y:Int}:∀{l:List (Int×Int×Nat)} {i:Nat},(∀e,l[i]? =some e→e.1=x)→(xB y l i).map zr=(l.map zr).modify i λe=>{ e with key:=.int .i64 x,val:=.int .i64 y }:=by
 intro l
 induction l with
 |nil=>intro i _;cases i<;>rfl
 |cons a l ih=>
  intro i hx;cases i with
  |zero=>have:=hx a rfl;subst this;rfl
  |succ i=>show zr a::(xB y l i).map zr=_;rw[ih λe he=>hx e he];rfl
theorem qgp {t:TypeId} {x s y:Operand} (ho:o.op=.mapUpdate t x s y) (hr:OpV m D ρ r) (R:Rel P m D h w) (e:opK P c o.op r h fin=some (v,h')):OpR P m D h w ((execOp ρ o).run P w) v h':=by
 rw[ho]at e;simp only[opK,jt,qH]at e;obtain⟨hm,a,ha,j,hj,u,hu,e⟩:=e;obtain⟨kt,et,h1,h2,h3⟩:=Yx hm;obtain⟨a1,a2⟩:=hr _ _ ha;obtain⟨j1,j2⟩:=hr _ _ hj;obtain⟨u1,u2⟩:=hr _ _ hu;simp only[execOp,ho,a1,j1,u1];unfold K9 at e
 split at e
 rotate_left
 ·cases e
 rename_i b x0 z
 split at e
 rotate_left
 ·cases e
 rename_i l q hg;obtain⟨x',hx',hbr,_⟩:=R.blk b a2;rw[hg]at hx';cases hx';have hheap:w.heap[(m b).1]? =some (.map (l.map zr).toArray q):=hbr
 have start:∀{w0:World},((do
   match(kb x0 l 0).map λe=>(e.1,Value.int .i64 e.2.1)with
   |some (i,_)=>do
    let key ← Instr.keyThatStays ((((l.map zr).toArray[i]?).map (·.key)).getD (.int .i64 x0)) (.int .i64 x0)
    setObj (m b).1 (.map ((l.map zr).toArray.modify i λe=>{ e with key,val:=.int .i64 z }) q)
   |none=>setObj (m b).1 (.map ((l.map zr).toArray.push { key:=.int .i64 x0,val:=.int .i64 z,born:=q }) (q+1)):Sem Unit).run P w=.ok () w0)→(Instr.mapUpdate t (cv m (.mapv b)) (cv m (.int .i64 x0)) (cv m (.int .i64 z))).run P w=.ok () w0:=by
  intro w0 hz;unfold Instr.mapUpdate;rw[qY (Ae.run_underlying h1)];simp only[cv];rw[qY (QB hheap)];simp only[];rw[qY (kf h2),qY (Qt h2)];exact hz
 split at e
 ·rename_i e1 hf;simp only[qU]at e;obtain⟨rfl,rfl⟩:=e;obtain⟨_,hat⟩:=MW hf;rw[Nat.sub_zero]at hat;have hat2:(l.map zr).toArray[e1.1]? =some (zr (x0,e1.2)):=by
   simp[hat]
  obtain⟨w0,hw0,X,R2⟩:=X8 R (l2:=xB z l e1.1) (q2:=q) a2 hg;refine⟨m,D,w0,.inr ⟨?_,rfl⟩,X,R2,trivial⟩
  have:=start (w0:=w0) (by
   rw[hf];simp only[Option.map_some,hat2,Option.getD_some];have hk:(Instr.keyThatStays (zr (x0,e1.2)).key (.int .i64 x0)).run P w=.ok (.int .i64 x0) w:=by
    unfold Instr.keyThatStays
    rw[iJ (show Instr.sameBits 10000 (zr (x0,e1.2)).key (.int .i64 x0)=true by
     show((IntKind.i64==IntKind.i64)&&(x0==x0))=true
     simp)]
    rfl
   rw[qY hk];have e2:(l.map zr).toArray.modify e1.1 (λe=>{ e with key:=.int .i64 x0,val:=.int .i64 z })=((xB z l e1.1).map zr).toArray:=by rw[qYP (x:=x0) (λe he=>by rw[hat]at he;cases he;rfl),List.modify_toArray]
   rw[e2,hw0]
   exact gg hheap)
  rw[qY this];rfl
 ·rename_i hf;simp only[qU]at e;obtain⟨rfl,rfl⟩:=e;obtain⟨w0,hw0,X,R2⟩:=X8 R (l2:=l++[(x0,z,q)]) (q2:=q+1) a2 hg;refine⟨m,D,w0,.inr ⟨?_,rfl⟩,X,R2,trivial⟩
  have:=start (w0:=w0) (by
   rw[hf];simp only[Option.map_none];have e2:(l.map zr).toArray.push { key:=.int .i64 x0,val:=.int .i64 z,born:=q }=((l++[(x0,z,q)]).map zr).toArray:=by simp[zr]
   rw[e2,hw0]
   exact gg hheap)
  rw[qY this];rfl
theorem qWt {α β:Type} {f:α→β}:∀{l:List α} {i:Nat},(l.eraseIdx i).map f=(l.map f).eraseIdx i:=by
 intro l
 induction l with
 |nil=>intro i;rfl
 |cons a l ih=>
  intro i;cases i with
  |zero=>rfl
  |succ i=>show f a::(l.eraseIdx i).map f=_;rw[ih];rfl
theorem qgd {cl:Call} (ho:o.op=.call cl) (hc:cl.callee=.builtin .delete) (hr:OpV m D ρ r) (R:Rel P m D h w) (e:opK P c o.op r h fin=some (v,h')):OpR P m D h w ((execOp ρ o).run P w) v h':=by
  obtain⟨cs,hx⟩:=wJ (P:=P) (w:=w) (ρ:=ρ) ho hc;rw[ho]at e;simp only[opK,hc]at e
  split at e
  rotate_left
  · cases e
  rename_i s x t ts ha hat;simp only[jt,qH]at e;obtain⟨hm,a,hs,j,hj,e⟩:=e;obtain⟨kt,et,h1,h2,h3⟩:=Yx hm;obtain⟨a1,a2⟩:=hr _ _ hs;obtain⟨j1,j2⟩:=hr _ _ hj;rw[hx,yh ha,yh hat];simp only[List.map_toArray,List.map_cons,List.map_nil,a1,j1];unfold Uq at e
  split at e
  rotate_left
  · cases e
  rename_i b y
  split at e
  rotate_left
  · cases e
  rename_i l q hg;obtain⟨x',hx',hbr,_⟩:=R.blk b a2;rw[hg]at hx';cases hx';have hheap:w.heap[(m b).1]? =some (.map (l.map zr).toArray q):=hbr
  have fin2 : ∀ {l2 : List (Int × Int × Nat)} {w0 : World}, w0 = { w with heap := w.heap.setIfInBounds (m b).1 (.map (l2.map zr).toArray q) } → ((do
        match(kb y l 0).map λe=>(e.1,Value.int .i64 e.2.1)with
        |some (i,_)=>setObj (m b).1 (.map ((l.map zr).toArray.eraseIdxIfInBounds i) q)
        |none=>setObj (m b).1 (.map (l.map zr).toArray q):Sem Unit).run P w=.ok () w0)→
      (builtin .delete (t::ts).toArray o.type cs #[cv m (.mapv b),cv m (.int .i64 y)]).run P w=.ok (.value (.tuple #[])) w0:=by
    intro l2 w0 _ hz;show(do pure (Next.value (← Builtin.delete_ (t::ts).toArray o.type #[cv m (.mapv b),cv m (.int .i64 y)])):Sem Next).run P w=_;have:(Builtin.delete_ (t::ts).toArray o.type #[cv m (.mapv b),cv m (.int .i64 y)]).run P w=.ok (.tuple #[]) w0:=by
      unfold Builtin.delete_;simp only[List.getElem?_toArray,List.getElem?_cons_zero];rw[show([cv m (.mapv b),cv m (.int .i64 y)]:List Value)[1]? =some (cv m (.int .i64 y))from rfl];simp only[];rw[qY (Ae.run_underlying h1)];simp only[cv];rw[qY (QB hheap)];simp only[];rw[qY (kf h2),qY (Qt h2)];cases hf:kb y l 0 with
      |some e=>rw[hf]at hz;simp only[Option.map_some]at hz ⊢;rw[qY hz];rfl
      |none=>rw[hf]at hz;simp only[Option.map_none]at hz ⊢;rw[qY hz];rfl
    rw[qY this];rfl
  split at e
  · rename_i e1 hf;simp only[qU]at e;obtain⟨rfl,rfl⟩:=e;obtain⟨_,hat2⟩:=MW hf;rw[Nat.sub_zero]at hat2;have hlt:e1.1<l.length:=(List.getElem?_eq_some_iff.1 hat2).1;obtain⟨w0,hw0,X,R2⟩:=X8 R (l2:=l.eraseIdx e1.1) (q2:=q) a2 hg;refine⟨m,D,w0,.inl (fin2 hw0 ?_),X,R2,trivial⟩;rw[hf];simp only[Option.map_some];have e2:(l.map zr).toArray.eraseIdxIfInBounds e1.1=((l.eraseIdx e1.1).map zr).toArray:=by
      rw[List.eraseIdxIfInBounds_toArray];rw[qWt]
    rw[e2,hw0];exact gg hheap
  · rename_i hf;simp only[qU]at e;obtain⟨rfl,rfl⟩:=e;obtain⟨w0,hw0,X,R2⟩:=X8 R (l2:=l) (q2:=q) a2 hg;refine⟨m,D,w0,.inl (fin2 hw0 ?_),X,R2,trivial⟩;rw[hf];simp only[Option.map_none];rw[hw0];exact gg hheap
end Go.Ae
namespace Go.Ae
open Go
variable {P:Program} {m:Mp} {D:Nat→Prop} {h h':AH} {w:World} {c:CV} {ρ:Operand→Value} {r:Operand→Option AV} {o:Oper} {v:AV}
theorem qya (hnv:∀cl f,o.op=.call cl→cl.callee≠.value f) (hni:∀cl x n,o.op=.call cl→cl.callee≠.invoke x n) (hr:OpV m D ρ r) (R:Rel P m D h w) (e:opS P c o.op r h=some (v,h')):OpR P m D h w ((execOp ρ o).run P w) v h':=by
 have e:opK P c o.op r h fin=some (v,h'):=e;cases ho:o.op with
 |move x=>exact qgC ho hr R e
 |assign x=>exact qG9 ho hr R e
 |pick x y z=>exact qk4 ho hr R e
 |alloc t=>exact qqT ho R e
 |box t x=>exact jQP ho hr R e
 |build t p=>exact qqs ho hr R e
 |buildSlice t n p=>exact qWd ho hr R e
 |load t x=>exact qv7 ho hr R e
 |store t x y=>exact qjD ho hr R e
 |nilCheck x=>exact jJB ho hr R e
 |binOp op t x y u=>exact qyu ho hr R e
 |unOp op t x=>exact op_un ho hr R e
 |convert s d x=>exact qwU ho hr R e
 |makeInterface t x=>exact qzM ho hr R e
 |makeFunc f x y=>exact qQU ho hr R e
 |makeSlice t x y=>exact qws ho hr R e
 |slice t x lo hi mx=>exact qzR ho hr R e
 |fieldAddr t x f=>exact qjF ho hr R e
 |field t x f=>exact qko ho hr R e
 |indexAddr t x i=>exact ZQ ho hr R e
 |index t x i=>exact qjb ho hr R e
 |typeAssert x xt t ok=>exact qYO ho hr R e
 |extract x i=>exact qZn ho hr R e
 |range t x=>exact qx3 ho hr R e
 |next x b=>exact qgc ho hr R e
 |makeMap t x=>exact qX9 ho R e
 |lookup t x y b=>exact qju ho hr R e
 |mapEntry t x y=>exact qgh ho hr R e
 |mapUpdate t x y z=>exact qgp ho hr R e
 |entryStore t x y z=>exact qym ho hr R e
 |call cl=>
  cases hc:cl.callee with
  |value f=>exact absurd hc (hnv cl f ho)
  |invoke a b=>exact absurd hc (hni cl a b ho)
  |builtin b=>
   cases b with
   |len=>exact qy1 ho hc hr R e
   |min=>exact qyS (mx:=false) ho hc hr R e
   |max=>exact qyS (mx:=true) ho hc hr R e
   |append=>exact qW4 ho hc hr R e
   |copy=>exact qk2 ho hc hr R e
   |delete=>exact qgd ho hc hr R e
   |_=>rw[ho]at e;simp only[opK,hc,reduceCtorEq]at e
 |_=>rw[ho]at e;simp only[opK,reduceCtorEq]at e
end Go.Ae
namespace Go.Ae
open Go
variable {P:Program} {m:Mp} {D:Nat→Prop} {h h':AH} {w:World} {c:CV} {o:Oper} {v:AV}
def FW (rd:Option Nat):Fence:={ Fence.wide with round:=rd }
def Qw (P:Program) (m:Mp) (D:Nat→Prop) (h:AH) (w:World) (r:AV×AH):Ending→World→Prop :=
 λe w'=>∃m' D',e=.returned (cv m' r.1)∧Ext m D h w m' D' r.2 w'∧Rel P m' D' r.2 w'∧inD D' r.1
def ZO (P:Program) (m:Mp) (D:Nat→Prop) (h:AH) (w:World) (args:List AV) (r:AV×AH):AV→Prop
 | .fn f first cap=>(∀as W,(callFunc f as).run P W=.ok (.enter f as) W)∧∀n,CallsIn Fence.wide n P f (cvs m (first++args++cap)).toArray w (Qw P m D h w r)
 | .yield l=>∃f' tmps assign body,(Instr.yield (m l).1 (cvs m args).toArray).run P w=.ok (.round (m l).1 f' tmps assign body) w∧∀n,RoundIn Fence.wide n P (m l).1 f' tmps assign body w (Qw P m D h w r)
 |_=>False
def yI (P:Program) (c:CV):Prop :=
 ∀vf args h r,c vf args h=some r→∀m D w,Rel P m D h w→inD D vf→inDs D args→ZO P m D h w args r vf
theorem qJO (m:Mp):cv m .undef=undef:=rfl
theorem qqf {l:List (Nat×Nat)} {t f:Nat} (e:UV l t=some f):(t,f)∈l:=by
 induction l with
 |nil=>cases e
 |cons p l ih=>
  have e':Bool.rec (motive:=λ_=>Option Nat) (UV l t) (some p.2) (Nat.beq p.1 t)=some f:=e;cases hb:Nat.beq p.1 t
  ·rw[hb]at e';exact iX _ (ih e')
  ·rw[hb]at e';have:=jo hb;subst this;cases e';exact iK ..
theorem qxf {name:String} {t f:Nat}:∀{L:List Nat},(t,f)∈qQB P name L→O1 P name t=some f:=by
 intro L
 induction L with
 |nil=>intro h;cases h
 |cons a L ih=>
  intro h;unfold qQB at h
  split at h
  ·rename_i g hg;rcases List.mem_cons.1 h with h |h
   ·cases h;exact hg
   ·exact ih h
  ·exact ih h
theorem qXr {name:String} {t f:Nat} (e:O1 P name t=some f) (n:Nat) (x:Value) (w:World):(method (n+1) t x name).run P w=.ok (f,x) w:=by
 simp only[O1,Option.bind_eq_some_iff]at e;obtain⟨i,hi,mm,hm,e⟩:=e;rw[jY]at e;obtain⟨hp,e⟩:=e;simp only[Option.bind_eq_some_iff]at e;obtain⟨g,hg,e⟩:=e;obtain⟨gf,gb⟩:=g;rw[jY]at e;obtain⟨hb,e⟩:=e;simp only at hb;subst hb;simp only[Option.bind_eq_some_iff]at e;obtain⟨d,hd,e⟩:=e
 split at e
 ·rename_i el;cases e;have hpe:mm.path= #[]:=by simpa using hp
  have hf:i.methods.find? (·.name==name)=some mm:=by rw[← Array.find?_toList];exact hm
  unfold method;rw [qY (run_typeInfo hi)];simp only [hf, hpe, hg];rw [qY (show (follow (#[] : Array FieldStep).toList t (.val x)).run P w = .ok (t, .val x) w from rfl)];simp only [];have hr : (receiverAt t (.val x) true (if (#[] : Array FieldStep).isEmpty = true then some ((name.splitOn ".").getLastD name) else none)).run P w = .ok x w := by unfold receiverAt;rw [qY (run_underlying hd)];rfl
  rw[qY hr];rfl
 ·cases e
theorem qQE (hc:yI P c) {rd:Option Nat} {n:Nat} {a:Act} {r:Operand→Option AV} (hr:OpV m D a.eval r) (R:Rel P m D h w) (e:opS P c o.op r h=some (v,h'))
  {next:Act→World→Prop} {Q:Exit→Act→World→Prop}
  (hn:∀m' D' w',Ext m D h w m' D' h' w'→Rel P m' D' h' w'→inD D' v→next (a.put o.dst (cv m' v)) w'):o.wpIn (FW rd) n P a w next Q:=by
 have hnd:∀cl,o.op≠.defer cl:=by intro cl hcl;unfold opS at e;rw[hcl]at e;simp only[opK,reduceCtorEq]at e
 refine⟨λ_ _=>trivial,?_⟩;rw[Oper.semAt_eq _ _ _ hnd];by_cases hv:∃cl f,o.op=.call cl∧cl.callee=.value f
 ·obtain⟨cl,f,ho,hcal⟩:=hv;unfold opS at e;rw[ho]at e;simp only[opK,hcal,qH]at e;obtain⟨vf,hvf,va,hva,e⟩:=e;obtain⟨f1,f2⟩:=hr _ _ hvf;obtain⟨v1,v2⟩:=QD hr hva;rw[QR]at e
  split at e
  ·rename_i q hq;simp only[qU]at e;obtain⟨rfl,rfl⟩:=e;have hok:=hc vf va h q hq m D w R f2 v2;have hargs:cl.args.map a.eval=(cvs m va).toArray:=by rw[UL,v1]
   cases vf<;>simp only[ZO]at hok
   case fn f' first cap=>
    obtain⟨k1,k2⟩:=hok;have hrun:(execOp a.eval o).run P w=.ok (.enter f' (cvs m (first++va++cap)).toArray) w:=by
     simp only[execOp,ho];have h1:(resolve a.eval cl o.type).run P w=.ok { target:=.fn (.func f') (cvs m cap).toArray,args:=(cvs m first).toArray++(cvs m va).toArray } w:=by unfold resolve;rw[hcal];simp only[f1,cv,hargs];rfl
     rw[qY h1];show(invoke (.fn (.func f') (cvs m cap).toArray) ((cvs m first).toArray++(cvs m va).toArray)).run P w=_;unfold invoke;show(callFunc f' ((cvs m first).toArray++(cvs m va).toArray++(cvs m cap).toArray)).run P w=_;rw[k1];simp[YX]
    rw[hrun];refine⟨(λhh=>by cases hh),?_⟩;refine CallsIn.mono (show CallsIn (FW rd) (n-1) P f' _ w _ from k2 (n-1)) ?_;rintro ee w' ⟨m',D',rfl,ex,re,hd⟩;exact hn m' D' w' ex re hd
   case yield l=>
    obtain⟨f',tmps,assign,body,k1,k2⟩:=hok;have hrun:(execOp a.eval o).run P w=.ok (.round (m l).1 f' tmps assign body) w:=by
     simp only[execOp,ho];have h1:(resolve a.eval cl o.type).run P w=.ok { target:=.fn (.yield (m l).1) #[],args:=(cvs m va).toArray } w:=by unfold resolve;rw[hcal];simp only[f1,cv,hargs,Deferred.ofValue];show Result.ok _ w=_;simp
     rw[qY h1];exact k1
    rw[hrun];refine⟨(λhh=>by cases hh),?_⟩;refine RoundIn.mono (show RoundIn (FW rd) (n-1) P _ _ _ _ _ w _ from k2 (n-1)) ?_;rintro ee w' ⟨m',D',rfl,ex,re,hd⟩;exact hn m' D' w' ex re hd
  ·cases e
 ·have hnv:∀cl f,o.op=.call cl→cl.callee≠.value f:=λcl f h1 h2=>hv ⟨cl,f,h1,h2⟩;by_cases hi:∃cl x name,o.op=.call cl∧cl.callee=.invoke x name
  ·obtain⟨cl,x,name,ho,hcal⟩:=hi;unfold opS at e;rw[ho]at e;simp only[opK,hcal,qH]at e;obtain⟨vx,hvx,va,hva,e⟩:=e;obtain⟨f1,f2⟩:=hr _ _ hvx;obtain⟨v1,v2⟩:=QD hr hva;unfold yR at e
   split at e
   ·rename_i t y;cases hf:UV (ZL P name) t with
    |none=>rw[hf]at e;cases e
    |some f=>
     rw[hf]at e;simp only[QR]at e
     split at e
     ·rename_i q hq;simp only[qU]at e;obtain⟨rfl,rfl⟩:=e;have hok:=hc (.fn f [] []) (y::va) h q hq m D w R ⟨trivial,trivial⟩ ⟨f2,v2⟩;obtain⟨k1,k2⟩:=hok;have hargs:cl.args.map a.eval=(cvs m va).toArray:=by rw[UL,v1]
      have hrun:(execOp a.eval o).run P w=.ok (.enter f (cvs m (y::va)).toArray) w:=by
       simp only[execOp,ho];have h1:(resolve a.eval cl o.type).run P w=.ok { target:=.fn (.method name) #[],args:=#[.iface t (cv m y)]++(cvs m va).toArray } w:=by unfold resolve;rw[hcal];simp only[f1,cv,hargs];rfl
       rw[qY h1];show(invoke (.fn (.method name) #[]) (#[.iface t (cv m y)]++(cvs m va).toArray)).run P w=_;unfold invoke;simp only[Array.getElem?_append,List.size_toArray,List.length_cons,List.length_nil,Nat.zero_add,Nat.lt_succ_self,if_true];show(callMethod (.iface t (cv m y)) name _).run P w=_;unfold callMethod;simp only[];rw[qY (show(program).run P w=.ok P w from rfl)];have hmeth:(method (P.types.size+Made.depth) t (cv m y) name).run P w=.ok (f,cv m y) w:=qXr (qxf (qqf hf)) _ _ _;rw[qY hmeth];simp only[];rw[k1];simp[cvs,List.take_of_length_le]
      rw[hrun];refine⟨(λhh=>by cases hh),?_⟩;have k3:=k2 (n-1);rw[List.nil_append,List.append_nil]at k3;refine CallsIn.mono (show CallsIn (FW rd) (n-1) P f _ w _ from k3) ?_;rintro ee w' ⟨m',D',rfl,ex,re,hd⟩;exact hn m' D' w' ex re hd
     ·cases e
   ·cases e
  have hni:∀cl x n,o.op=.call cl→cl.callee≠.invoke x n:=λcl x n h1 h2=>hi ⟨cl,x,n,h1,h2⟩;obtain⟨m',D',w',hres,ex,re,hd⟩:=qya (o:=o) hnv hni hr R e;rcases hres with hres |⟨hres,hund⟩
  ·rw[hres];exact hn m' D' w' ex re hd
  ·rw[hres];have:=hn m' D' w' ex re hd;rw[hund,qJO]at this;exact this
end Go.Ae
namespace Go.Ae
open Go
variable {P:Program} {m:Mp} {D:Nat→Prop} {h h':AH} {w:World} {c:CV} {o:Oper} {v:AV}
structure TmR (m:Mp) (D:Nat→Prop) (n:Nat) (a:Act) (tm:PT AV):Prop where
  size:n≤a.tmps.size
  at_:∀t v,tm.get t=some v→a.tmps[t]? =some (cv m v)∧inD D v
theorem TmR.ev {n:Nat} {a:Act} {tm:PT AV} (T:TmR m D n a tm):OpV m D a.eval (ev tm):=by
 intro x v e;cases x with
 |tmp t=>simp only[Ae.ev]at e;obtain⟨h1,h2⟩:=T.at_ t v e;refine⟨?_,h2⟩;simp only[Act.eval,Array.getD_eq_getD_getElem?,h1,Option.getD_some]
 |const k=>simp only[Ae.ev]at e;obtain⟨h1,h2⟩:=JX (m:=m) (D:=D) e;exact⟨h1.symm,h2⟩
 |global g=>simp only[Ae.ev,reduceCtorEq]at e
 |func f=>simp only[Ae.ev,Option.some.injEq]at e;subst e;exact⟨by simp[Act.eval,cv,cvs],trivial,trivial⟩
theorem TmR.mono {m':Mp} {D':Nat→Prop} {w':World} {n:Nat} {a:Act} {tm:PT AV} (T:TmR m D n a tm) (e:Ext m D h w m' D' h' w'):TmR m' D' n a tm :=
 ⟨T.size,λt v hv=>by
  obtain⟨h1,h2⟩:=T.at_ t v hv
  exact⟨by rw[e.cv h2];exact h1,e.inD h2⟩⟩
theorem TmR.put {n:Nat} {a:Act} {tm:PT AV} (T:TmR m D n a tm) {dst:Option Tmp} {k:PT AV→R} {r:AV×AH} (hv:inD D v) (e:V3 n tm dst v k=some r) :
  ∃tm',k tm'=some r∧TmR m D n (a.put dst (cv m v)) tm':=by
 cases dst with
 |none=>exact⟨tm,e,T⟩
 |some d=>
  simp only[V3,jt]at e;obtain⟨hd,e⟩:=e;have hd:=zQ hd;refine⟨_,e,by simp[Act.put];exact T.size,?_⟩;intro t u hu;rw[PT.get_set]at hu;by_cases ht:d=t
  ·subst ht;rw[iJ rfl]at hu;cases hu;refine⟨?_,hv⟩;have:=T.size;simp[Act.put,Array.getElem?_setIfInBounds_self];omega
  ·rw[iQ ht]at hu;obtain⟨h1,h2⟩:=T.at_ t u hu;exact⟨by simp[Act.put,Array.getElem?_setIfInBounds_ne ht];exact h1,h2⟩
theorem wO (a:Act) (dst:Option Tmp) (x:Value):(a.put dst x).defers=a.defers:=by cases dst<;>rfl
structure qJE (P:Program) (m:Mp) (D:Nat→Prop) (h:AH) (w:World) (n:Nat) (ds:List Deferred) (a:Act) (tm:PT AV) (m':Mp) (D':Nat→Prop) (h':AH) (w':World):Prop where
  ext:Ext m D h w m' D' h' w'
  rel:Rel P m' D' h' w'
  tm:TmR m' D' n a tm
  defers:a.defers=ds
theorem K7 {ops:Array Oper} {a:Act} {dst:Option Tmp} {x:Value} {g:Nat} {p:Oper} {d:Tmp} (hp:ops[g]? =some p) (hd:p.dst=some d) (hne:dst≠some d) :
  yielded ops (a.put dst x).tmps g=yielded ops a.tmps g:=by
 unfold yielded;simp only[hp,Option.bind_some,hd];cases dst with
 |none=>rfl
 |some t=>have:t≠d:=λe=>hne (by rw[e]);simp[Act.put,Array.getElem?_setIfInBounds_ne this]
theorem Yg {d:Nat} {l:List Oper} (hw:writes d l=false):∀o∈l,o.dst≠some d:=by
 induction l with
 |nil=>intro o ho;cases ho
 |cons x l ih=>
  simp only[writes,Bool.or_eq_false_iff]at hw;intro o ho;rcases List.mem_cons.1 ho with rfl |ho
  ·intro e;rw[e]at hw;exact vq hw.1 rfl
  ·exact ih hw.2 o ho
end Go.Ae
