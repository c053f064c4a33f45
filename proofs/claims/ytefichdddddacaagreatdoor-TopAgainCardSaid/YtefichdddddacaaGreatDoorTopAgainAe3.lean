/- The abstract executor of the program's form in Lean, shown sound: new blocks, cuts, appends, copies, conversions, ranges; every operation; calls. -/
import Derived.Test.YtefichdddddacaaGreatDoorTopAgainAe2
import Derived.Laws.BytesString
namespace Go.Ae
open Go
variable {P:Program} {m:Mp} {D:Nat→Prop} {h h':AH} {w:World} {c:CV} {ρ:Operand→Value} {r:Operand→Option AV} {o:Oper} {v:AV}
theorem Et (R:Rel P m D h w) {s:Sem Value} {b:cy} {IV:Obj} {room:Nat} {z:AV} {w0:World}
  (hs:s.run P w=.ok (cv (λx=>if x=h.nx then(w.heap.size,room)else m x) z) w0)
  (sn:w0.heap=w.heap.push IV) (tu:w0.os=w.os) (fP:w0.tape=w.tape) (fw:w0.output=w.output)
  (hb:cq D b) (hbr:cR P m b (w.heap.size,room) w0) (hz:bm (λx=>x=h.nx∨D x) z) (fH:∀t,b≠.cI t:=by intro t hh;cases hh) :
  dE P m D h w ((do pure (Next.value (← s)):Sem Next).run P w) z (h.new b):=by
 obtain⟨e,r'⟩:=R.new b IV room sn tu fP fw hb hbr fH;exact⟨_,_,w0,.inl (by rw[qY hs];rfl),e,r',hz⟩
theorem kM (t:TypeId) (cs:Array Value):(newRow t cs).run P w=.ok ⟨w.heap.size,0,none⟩ { w with heap:=w.heap.push (.cells cs t) }:=rfl
theorem M9 {ct:CT} {cs:List AV} {t:TypeId} (uW:ct.toList=cs) (w0:World) (sn:w0.heap=w.heap.push (.cells (aS m cs).toArray t)):cR P m (.cells ct t false) (w.heap.size,0) w0:=by refine⟨[],(0,0),?_,λ_=>rfl,λi _=>by simp,λh=>by cases h⟩;rw[sn,uW];simp
theorem IW (R:Rel P m D h w) {x z:AV} {t:TypeId} (hx:bm D x) (e:gc h t x fin=some (z,h')) :
  dE P m D h w ((do pure (Next.value (← (do pure (.pointer (some (← newVar t (cv m x)))):Sem Value))):Sem Next).run P w) z h':=by
 unfold gc at e;simp only[jZ,qf]at e;obtain⟨_,rfl,rfl⟩:=e;refine Et R (w0:={ w with heap:=w.heap.push (.cells (aS m x.cells).toArray t) }) (room:=0) ?_ rfl rfl rfl rfl (by simp only[cq,CT.aI];exact wx hx) (M9 (CT.aI _) _ rfl) (.inl rfl);unfold newVar;rw[gj,qY (kM t _)];simp[cv]
theorem qWS {t:TypeId} (ho:o.op=.alloc t) (R:Rel P m D h w) (e:bh P c o.op r h fin=some (v,h')):dE P m D h w ((execOp ρ o).run P w) v h':=by
 rw[ho]at e;simp only[bh,qC]at e;obtain⟨z,hz,e⟩:=e;obtain⟨z1,z2⟩:=yI (w:=w) (m:=m) (D:=D) hz;have:=IW R z2 e;simp only[execOp,ho];have e2:(Instr.alloc t true (.tuple #[])).run P w=(do pure (.pointer (some (← newVar t (cv m z)))):Sem Value).run P w:=by unfold Instr.alloc;rw[qY z1]
 have e3:(do pure (Next.value (← Instr.alloc t true (.tuple #[]))):Sem Next).run P w=(do pure (Next.value (← (do pure (.pointer (some (← newVar t (cv m z)))):Sem Value))):Sem Next).run P w:=by show(Sem.bind _ _).run P w=(Sem.bind _ _).run P w;rw[Gz,Gz,e2]
 rw[e3];exact this
theorem qg8 {t:TypeId} {x:Operand} (ho:o.op=.box t x) (hr:dP m D ρ r) (R:Rel P m D h w) (e:bh P c o.op r h fin=some (v,h')):dE P m D h w ((execOp ρ o).run P w) v h':=by rw[ho]at e;simp only[bh,qC]at e;obtain⟨a,ha,e⟩:=e;obtain⟨a1,a2⟩:=hr _ _ ha;have:=IW R a2 e;simp only[execOp,ho,a1];exact this
theorem JV {cl:Call} {b:Builtin} (ho:o.op=.call cl) (hc:cl.callee=.builtin b) :
  ∃cs,(execOp ρ o).run P w=(builtin b cl.argTypes o.type cs (cl.args.map ρ)).run P w:=by
 refine⟨cl.args.map fun | .const _=>true |_=>false,?_⟩;simp only[execOp,ho];have h1:(resolve ρ cl o.type).run P w=.ok { target:=.builtin b cl.argTypes o.type (cl.args.map fun | .const _=>true |_=>false),args:=cl.args.map ρ } w:=by unfold resolve;rw[hc];rfl
 rw[qY h1];rfl
theorem QC {α:Type} {a:Array α} {l:List α} (h:a.toList=l):a=l.toArray:=by cases a;simp at h;subst h;rfl
theorem qgh {cl:Call} (ho:o.op=.call cl) (hc:cl.callee=.builtin .len) (hr:dP m D ρ r) (R:Rel P m D h w) (e:bh P c o.op r h fin=some (v,h')):dE P m D h w ((execOp ρ o).run P w) v h':=by
 obtain⟨cs,hx⟩:=JV (P:=P) (w:=w) (ρ:=ρ) ho hc;rw[ho]at e;simp only[bh,hc]at e
 split at e
 ·rename_i x xs t ts ha ht;simp only[qC]at e;obtain⟨a,oC,d,hd,e⟩:=e;obtain⟨a1,a2⟩:=hr _ _ oC;rw[hx,QC ha,QC ht]
  have cK:∀z,(∀u,P.underlying t=some u→(match u,cv m a with
    | .string,.string s=>(pure (goInt s.size):Sem Value)
    | .array n _,_=>pure (goInt n)
    | .pointer arr,_=>do
     let .array n _ ← underlying arr | stuck "len: pointer to array expected"
     pure (goInt n)
    | .slice _,.slice _ n _=>pure (goInt n)
    | .map _ _,.map none | .chan _ _,.chan none=>pure (goInt 0)
    | .map _ _,.map (some r)=>do
     let .map entries _ ← getObj r | stuck "len: map expected"
     pure (goInt entries.size)
    | .chan _ _,.chan (some r)=>do
     let .chan _ buf _ _ _ timer ← getObj r | stuck "len: channel expected"
     pure (goInt (if timer then 0 else buf.size))
    | _, _ => stuck "len: string, array, pointer to array, slice, map or channel expected").run P w = .ok z w) →
    (Builtin.len_ (t::ts).toArray o.type ((x::xs).toArray.map ρ)).run P w=.ok z w:=by
   intro z hz;unfold Builtin.len_;simp only[List.getElem?_toArray,List.getElem?_cons_zero,List.map_toArray,List.map_cons,a1];rw[qY (Ae.run_underlying hd)];exact hz d hd
  have nz:∀n:Nat,v=.int .i64 (.ofNat n)→h=h'→(Builtin.len_ (t::ts).toArray o.type ((x::xs).toArray.map ρ)).run P w=.ok (goInt n) w→
    dE P m D h w ((builtin .len (t::ts).toArray o.type cs ((x::xs).toArray.map ρ)).run P w) v h':=by
   rintro n rfl rfl hl;exact jn R hl trivial
  cases d<;>simp only[reduceCtorEq]at e
  case string=>
   unfold JA at e
   split at e
   ·rename_i q;simp only[qf]at e;obtain⟨rfl,rfl⟩:=e;refine nz _ rfl rfl (cK _ λu hu=>?_);rw[hd]at hu;cases hu;simp only[cv];show Result.ok (goInt (ByteArray.mk q.toArray).size) w=_;simp[ByteArray.size]
   ·cases e
  case array n el=>simp only[qf]at e;obtain⟨rfl,rfl⟩:=e;refine nz _ rfl rfl (cK _ λu hu=>?_);rw[hd]at hu;cases hu;rfl
  case slice el=>
   unfold kl at e
   split at e
   ·simp only[qf]at e;obtain⟨rfl,rfl⟩:=e;refine nz _ rfl rfl (cK _ λu hu=>?_);rw[hd]at hu;cases hu;rfl
   ·simp only[qf]at e;obtain⟨rfl,rfl⟩:=e;refine nz 0 rfl rfl (cK _ λu hu=>?_);rw[hd]at hu;cases hu;rfl
   ·simp only[qf]at e;obtain⟨rfl,rfl⟩:=e;refine nz 0 rfl rfl (cK _ λu hu=>?_);rw[hd]at hu;cases hu;rfl
   ·simp only[qf]at e;obtain⟨rfl,rfl⟩:=e;refine nz 0 rfl rfl (cK _ λu hu=>?_);rw[hd]at hu;cases hu;rfl
   ·cases e
 ·cases e
theorem qkR {mx:Bool} {a b z:AV} (e:AI mx a b=some z):((match mx with |true=>Builtin.max2 |false=>Builtin.min2) (cv m a) (cv m b)).run P w=.ok (cv m z) w∧UH z=true:=by
 unfold AI at e
 split at e
 ·rename_i k x k' y;rw[jZ]at e;obtain⟨hk,e⟩:=e;have hk:k=k':=by simpa using hk
  subst hk;simp only[Option.some.injEq]at e;subst e;cases mx
  ·simp only[cond_false,UQ,cv];refine⟨?_,rfl⟩;simp only[Builtin.min2,vk];by_cases hh:y<x<;>simp[hh]
  ·simp only[cond_true,UQ,cv];refine⟨?_,rfl⟩;simp only[Builtin.max2,vk];by_cases hh:y>x
   ·have:x<y:=hh;simp[hh]
   ·have:¬x<y:=hh;simp[hh]
 ·cases e
theorem qxE {mx:Bool} {l:List AV} {a z:AV} (ha:UH a=true) (e:te mx a l=some z) :
  ((aS m l).foldlM (match mx with |true=>Builtin.max2 |false=>Builtin.min2) (cv m a)).run P w=.ok (cv m z) w∧UH z=true:=by
 induction l generalizing a with
 |nil=>simp[te]at e;subst e;exact⟨rfl,ha⟩
 |cons b l ih=>simp only[te,Option.bind_eq_some_iff]at e;obtain⟨y,hy,e⟩:=e;obtain⟨y1,y2⟩:=qkR (P:=P) (m:=m) (w:=w) hy;obtain⟨z1,z2⟩:=ih y2 e;refine⟨?_,z2⟩;simp only[aS,List.foldlM_cons];rw[qY y1];exact z1
theorem IX {cl:Call} {mx:Bool} (ho:o.op=.call cl) (hc:cl.callee=.builtin (match mx with |true=>.max |false=>.min)) (hr:dP m D ρ r) (R:Rel P m D h w) (e:bh P c o.op r h fin=some (v,h')):dE P m D h w ((execOp ρ o).run P w) v h':=by
 obtain⟨cs,hx⟩:=JV (P:=P) (w:=w) (ρ:=ρ) ho hc;rw[ho]at e;have e':(ob (gH r cl.args.toList) λl=>nq mx l λz=>fin z h)=some (v,h'):=by
  cases mx<;>simpa only[bh,hc]using e
 simp only[qC]at e';obtain⟨l,hl,e⟩:=e';obtain⟨l1,l2⟩:=kb hr hl;unfold nq at e
 split at e
 ·rename_i a q;simp only[jZ,qC,qf]at e;obtain⟨hi,z,hz,rfl,rfl⟩:=e;obtain⟨z1,z2⟩:=qxE (P:=P) (m:=m) (w:=w) hi hz;have hv:bm D z:=by cases z<;>simp[UH]at z2;trivial
  rw[hx];have fR:(cl.args.map ρ).toList=cv m a::aS m q:=by rw[Array.toList_map,l1];rfl
  cases mx
  ·refine jn R (s:=Builtin.min_ cl.argTypes o.type (cl.args.map ρ)) ?_ hv;unfold Builtin.min_;rw[fR];exact z1
  ·refine jn R (s:=Builtin.max_ cl.argTypes o.type (cl.args.map ρ)) ?_ hv;unfold Builtin.max_;rw[fR];exact z1
 ·cases e
end Go.Ae
namespace Go.Ae
open Go
variable {P:Program} {m:Mp} {D:Nat→Prop} {h h':AH} {w:World} {c:CV} {ρ:Operand→Value} {r:Operand→Option AV} {o:Oper} {v:AV}
theorem GK {x:AV} {y n:Nat} {code:BoundsCode} (e:NA x y=some n):(Instr.sliceBound (cv m x) y code).run P w=.ok n w∧n≤y:=by
 unfold NA at e
 split at e
 ·rename_i k q;rw[jZ]at e;obtain⟨hq,e⟩:=e;have hq:=jh hq;simp only[Option.some.injEq]at e;subst e;refine⟨?_,hq⟩;unfold Instr.sliceBound;simp only[cv];rw[qY (show(asIntOf (.int k (.ofNat q))).run P w=.ok (k,.ofNat q) w from rfl)];have:(0:Int)≤Int.ofNat q∧Int.ofNat q≤(y:Int):=⟨Int.natCast_nonneg q,by show(q:Int)≤y;omega⟩;simp only[iJ this];rfl
 ·cases e
theorem Q7 {isS:Bool} {len cap u l:Nat} {lo hi:Option AV} (hu:yO hi cap len=some u) (hl:yO lo u 0=some l) :
  (Instr.sliceBounds isS len cap (lo.map (cv m)) (hi.map (cv m)) none).run P w=.ok (l,u,cap) w∧(hi=none∨u≤cap)∧(l≤u)∧(hi=none→u=len):=by
 unfold Instr.sliceBounds;have h1:((pure cap:Sem Nat)).run P w=.ok cap w:=rfl;rw[qY h1];cases hi with
 |none=>
  simp only[yO,Option.some.injEq]at hu;subst hu;simp only[Option.map_none];rw[qY (show(pure len:Sem Nat).run P w=.ok len w from rfl)];cases lo with
  |none=>simp only[yO,Option.some.injEq]at hl;subst hl;simp only[Option.map_none];rw[qY (show(pure 0:Sem Nat).run P w=.ok 0 w from rfl)];exact⟨rfl,.inl (by trivial),Nat.zero_le _,λ_=>by trivial⟩
  |some x=>obtain⟨h2,h3⟩:=GK (P:=P) (m:=m) (w:=w) (code:=.sliceB) hl;simp only[Option.map_some,Option.isSome_none,Bool.false_eq_true,if_false];rw[qY h2];exact⟨rfl,.inl (by trivial),h3,λ_=>by trivial⟩
 |some y=>
  simp only[Option.map_some];obtain⟨h4,h5⟩:=GK (P:=P) (m:=m) (w:=w) (code:=if isS then .sliceAcap else .sliceAlen) hu;rw[qY h4];cases lo with
  |none=>simp only[yO,Option.some.injEq]at hl;subst hl;simp only[Option.map_none];rw[qY (show(pure 0:Sem Nat).run P w=.ok 0 w from rfl)];exact⟨rfl,.inr h5,Nat.zero_le _,λhh=>by cases hh⟩
  |some x=>obtain⟨h2,h3⟩:=GK (P:=P) (m:=m) (w:=w) (code:=.sliceB) hl;simp only[Option.map_some,Option.isSome_none,Bool.false_eq_true,if_false];rw[qY h2];exact⟨rfl,.inr h5,h3,λhh=>by cases hh⟩
theorem IY (hr:dP m D ρ r) {x:Option Operand} {y:Option AV} (e:YK r x=some y):x.map ρ=y.map (cv m):=by
 cases x with
 |none=>simp[YK]at e;subst e;rfl
 |some x=>simp only[YK,Option.map_eq_some_iff]at e;obtain⟨a,ha,rfl⟩:=e;simp[(hr _ _ ha).1]
theorem qqA {t:TypeId} {x:Operand} {lo hi mx:Option Operand} (ho:o.op=.slice t x lo hi mx) (hr:dP m D ρ r) (R:Rel P m D h w) (e:bh P c o.op r h fin=some (v,h')):dE P m D h w ((execOp ρ o).run P w) v h':=by
 rw[ho]at e;cases mx<;>simp only[bh,reduceCtorEq]at e
 simp only[qC]at e;obtain⟨a,ha,Di,dn,l9,iM,d,hd,e⟩:=e;obtain⟨a1,a2⟩:=hr _ _ ha;simp only[execOp,ho,a1,IY hr dn,IY hr iM,Option.map_none];cases d<;>simp only[reduceCtorEq]at e
 case string=>
  unfold gJ at e
  split at e
  ·rename_i s;simp only[qC,qf]at e;obtain⟨u,hu,l,hl,t',ht,rfl,rfl⟩:=e;obtain⟨b1,_,b2,_⟩:=Q7 (P:=P) (m:=m) (w:=w) (isS:=false) hu hl;refine jn R ?_ trivial;unfold Instr.sliceAt;rw[qY (Ae.run_underlying hd)];simp only[];unfold Instr.slice;rw[qY (Ae.run_underlying hd)];simp only[cv,Option.isSome_none,Bool.false_eq_true,if_false];have hs:(ByteArray.mk s.toArray).size=s.length:=by simp[ByteArray.size]
   rw[hs];rw[qY b1];simp only[vk]
   congr 2
   rw[wc]at ht;obtain⟨t1,t2⟩:=wg ht;subst t1;apply ByteArray.ext;rw[ByteArray.data_extract];simp[List.extract_eq_take_drop]
  ·cases e
 case slice el=>
  simp only[qC]at e;obtain⟨sz,bx,e⟩:=e;have main:∀(A:Option Addr) (len cap u l:Nat) (z:AV),cv m a=.slice A len cap→yO l9 cap len=some u→yO Di u 0=some l→bm D z→
    cv m z=.slice (if cap=l then A else A.map (·.add (l*sz))) (u-l) (cap-l)→dE P m D h w ((do pure (Next.value (← Instr.sliceAt t (cv m a) (Di.map (cv m)) (l9.map (cv m)) none)):Sem Next).run P w) z h:=by
   intro A len cap u l z hca hu hl hz hcz;obtain⟨b1,_,b2,_⟩:=Q7 (P:=P) (m:=m) (w:=w) (isS:=true) (len:=len) hu hl;refine jn R ?_ hz;unfold Instr.sliceAt;rw[qY (Ae.run_underlying hd)];simp only[];unfold Instr.slice;rw[qY (Ae.run_underlying hd)];simp only[hca];rw[qY b1];simp only[];rw[qY (Ae.run_sizeOf bx),hcz];rfl
  unfold yX at e
  split at e
  ·rename_i b off len cap;simp only[qC,qf]at e;obtain⟨u,hu,l,hl,rfl,rfl⟩:=e;refine main _ len cap u l _ rfl hu hl a2 ?_;simp only[cv];cases dQ:Nat.beq cap l
   ·have:=yb dQ;simp only[cond_false,iQ this,Option.map_some,wG]
   ·have:=jf dQ;simp only[cond_true,iJ this]
  ·rename_i b off len i0;simp only[jZ,qC]at e;obtain⟨hf,u,hu,l,hl,e⟩:=e;unfold yE at hf
   split at hf
   ·rename_i cs el' hg;simp only[Bool.and_eq_true]at hf;obtain⟨f0,f1,f2,f3⟩:=hf;have f0:=jf f0;have f1:=jh f1;have f2:=jf f2;have f3:=jh f3;subst f0;obtain⟨rest,fr,h1,h2,h3,h4,h5⟩:=R.cells a2 hg;obtain⟨h4a,h4b⟩:=h4 rfl sz bx;rw[CT.dl]at f3;have oD:i0+len≤(m b).2:=by
     have:(i0+len)*sz≤(m b).2*sz:=by rw[Nat.add_mul];omega
     exact Nat.le_of_mul_le_mul_right this f1
    have uX:yO l9 ((m b).2-i0) len=some u:=by
     cases l9 with
     |none=>exact hu
     |some y=>
      simp only[yO,NA]at hu ⊢
      split at hu
      ·rename_i k q;rw[jZ]at hu ⊢;exact⟨iY (by have:=jh hu.1;omega),hu.2⟩
      ·cases hu
    have hule:u≤len:=by
     cases l9 with
     |none=>simp only[yO,Option.some.injEq]at hu;omega
     |some y=>
      simp only[yO,NA]at hu
      split at hu
      ·rw[jZ]at hu;have:=jh hu.1;simp only[Option.some.injEq]at hu;omega
      ·cases hu
    cases my:Nat.beq l 0
    ·have A0:=yb my;rw[my]at e;simp only[cond_false]at e;cases pV:Nat.ble (l+1) len
     ·rw[pV]at e;simp only[cond_false,qf]at e;obtain⟨rfl,rfl⟩:=e;have pV:¬l+1≤len:=λh=>by rw[iY h]at pV;cases pV
      obtain⟨_,_,q1,_⟩:=Q7 (P:=P) (m:=m) (w:=w) (isS:=true) (len:=len) uX hl;refine main _ len _ u l _ rfl uX hl a2 ?_;simp only[cv];have e1:u-l=0:=by omega
      rw[e1];by_cases hc:(m b).2=i0+l
      ·rw[iJ hc,iJ omQ]
       congr 1
       omega
      ·rw[iQ hc,iQ omQ];simp only[Option.map_some,wG]
       congr 1
       omega
     rw[pV]at e;simp only[cond_true,qf]at e;obtain⟨rfl,rfl⟩:=e;have pV:=jh pV;refine main _ len _ u l _ rfl uX hl a2 ?_;simp only[cv];rw[iQ omQ];simp only[Option.map_some,wG]
     congr 1
     omega
    ·have A0:=jf my;subst A0;rw[my]at e;simp only[cond_true,qf]at e;obtain⟨rfl,rfl⟩:=e;refine main _ len _ u 0 _ rfl uX hl a2 ?_;simp only[cv];simp[Addr.add]
   ·cases hf
  ·simp only[qC,qf]at e;obtain⟨u,hu,l,hl,rfl,rfl⟩:=e;have Eu:u=0:=by
    cases l9 with
    |none=>simp only[yO,Option.some.injEq]at hu;omega
    |some y=>
     simp only[yO,NA]at hu
     split at hu
     ·rw[jZ]at hu;have:=jh hu.1;simp only[Option.some.injEq]at hu;omega
     ·cases hu
   subst Eu;have my:l=0:=by
    cases Di with
    |none=>simp only[yO,Option.some.injEq]at hl;omega
    |some y=>
     simp only[yO,NA]at hl
     split at hl
     ·rw[jZ]at hl;have:=jh hl.1;simp only[Option.some.injEq]at hl;omega
     ·cases hl
   subst my;refine main none 0 0 0 0 .ak rfl hu hl trivial ?_;simp[cv]
  ·simp only[qC,qf]at e;obtain⟨u,hu,l,hl,rfl,rfl⟩:=e;have Eu:u=0:=by
    cases l9 with
    |none=>simp only[yO,Option.some.injEq]at hu;omega
    |some y=>
     simp only[yO,NA]at hu
     split at hu
     ·rw[jZ]at hu;have:=jh hu.1;simp only[Option.some.injEq]at hu;omega
     ·cases hu
   subst Eu;have my:l=0:=by
    cases Di with
    |none=>simp only[yO,Option.some.injEq]at hl;omega
    |some y=>
     simp only[yO,NA]at hl
     split at hl
     ·rw[jZ]at hl;have:=jh hl.1;simp only[Option.some.injEq]at hl;omega
     ·cases hl
   subst my;refine main _ 0 0 0 0 (.bT _) rfl hu hl trivial ?_;simp[cv]
  ·cases e
 case array n el=>
  simp only[qC]at e;obtain⟨sz,bx,e⟩:=e;unfold gT at e
  split at e
  ·rename_i b off;simp only[qC,qf]at e;obtain⟨u,hu,l,hl,rfl,rfl⟩:=e;obtain⟨b1,_,b2,_⟩:=Q7 (P:=P) (m:=m) (w:=w) (isS:=false) (len:=n) hu hl;refine jn R ?_ a2;unfold Instr.sliceAt;rw[qY (Ae.run_underlying hd)];simp only[cv];rw[qY (show(Instr.sureAddr (.pointer (some ⟨(m b).1,off,none⟩))).run P w=.ok ⟨(m b).1,off,none⟩ w from rfl)];rw[qY b1];simp only[];rw[qY (Ae.run_sizeOf bx)];cases dQ:Nat.beq n l
   ·have:=yb dQ;simp only[cond_false,iQ this,wG];rfl
   ·have:=jf dQ;simp only[cond_true,iJ this];rfl
  ·cases e
end Go.Ae
namespace Go.Ae
open Go
variable {P:Program} {m:Mp} {D:Nat→Prop} {h h':AH} {w:World} {c:CV} {ρ:Operand→Value} {r:Operand→Option AV} {o:Oper} {v:AV}
theorem qKp:∀(vs:List Value) (C:List Value) (off i:Nat),off+i+vs.length≤C.length→
  (vs.zipIdx i).foldl (λcs (p:Value×Nat)=>cs.setIfInBounds (off+p.2) p.1) C.toArray=(C.take (off+i)++vs++C.drop (off+i+vs.length)).toArray:=by
 intro vs
 induction vs with
 |nil=>intro C off i h;simp
 |cons v vs ih=>
  intro C off i h;simp only[List.length_cons]at h;simp only[List.zipIdx_cons,List.foldl_cons];have e0:C.toArray.setIfInBounds (off+i) v=(C.set (off+i) v).toArray:=by simp
  rw[e0,ih _ off (i+1) (by simp;omega)]
  congr 1
  have e1:(C.set (off+i) v).take (off+(i+1))=C.take (off+i)++[v]:=by rw[show off+(i+1)=(off+i)+1 from by omega,List.take_succ_eq_append_getElem (by simp;omega)];simp[List.take_set_of_le]
  have e2:(C.set (off+i) v).drop (off+(i+1)+vs.length)=C.drop (off+i+(v::vs).length):=by
   rw[List.drop_set_of_lt omQ]
   congr 1
   simp;omega
  rw[e1,e2];simp
theorem VQ (hr:dP m D ρ r) {pl:Nat→Option (Nat×Nat)} {l:List (Nat×Operand)} {vs:List (Nat×Nat×AV)} (e:xS pl r l=some vs) :
  ∀{z cs:List AV},yV z vs=some cs→aW D z→Instr.fill pl (aS m z).toArray (l.map λp=>(p.1,ρ p.2))=some (aS m cs).toArray∧aW D cs:=by
 induction l generalizing vs with
 |nil=>intro z cs e2 hz;simp[xS]at e;subst e;simp[yV]at e2;subst e2;exact⟨rfl,hz⟩
 |cons p l ih=>
  obtain⟨i,x⟩:=p;intro z cs e2 hz;simp only[xS,Option.bind_eq_some_iff,Option.map_eq_some_iff]at e;obtain⟨q,hq,a,ha,s,hs,rfl⟩:=e;obtain⟨a1,a2⟩:=hr _ _ ha;simp only[yV,jZ,Option.bind_eq_some_iff]at e2;obtain⟨hl,z',Ev,e2⟩:=e2;have hl:=jf hl;obtain⟨e3,e4⟩:=Gs Ev;have pW:aW D z':=by rw[e3];exact yp.2 ⟨yp.2 ⟨Qa _ hz,wx a2⟩,XN _ hz⟩
  obtain⟨f1,f2⟩:=ih hs e2 pW;refine⟨?_,f2⟩;simp only[List.map_cons,Instr.fill,hq];have bx:(ρ x).cells.size=q.2:=by rw[a1,gj];simpa using hl
  have dy:(decide ((ρ x).cells.size≠q.2)||decide (q.1+(ρ x).cells.size>(aS m z).toArray.size))=false:=by rw[bx];simp only[Bool.or_eq_false_iff,decide_eq_false_iff_not,List.size_toArray,dK];exact⟨λhh=>hh rfl,by omega⟩
  simp only[dy,Bool.false_eq_true,if_false];rw[← f1]
  congr 1
  rw[a1,gj,← Array.foldl_toList];have:=qKp (aS m a.cells) (aS m z) q.1 0 (by simp;omega);rw[Array.toList_zipIdx];show List.foldl (λcs (p:Value×Nat)=>cs.setIfInBounds (q.1+p.2) p.1) (aS m z).toArray ((aS m a.cells).zipIdx 0)=_;rw[this,e3];simp[zN]
theorem Zu {fs:List Field} {pl:List (Nat×Nat)} (e:wR P fs=some pl):(fs.mapM λf=>(do pure (f.offset,← sizeOf f.type):Sem (Nat×Nat))).run P w=.ok pl w:=by
 induction fs generalizing pl with
 |nil=>simp[wR,gH]at e;subst e;rfl
 |cons f fs ih=>simp only[wR,gH,Option.bind_eq_some_iff,Option.map_eq_some_iff]at e;obtain⟨q,⟨n,hn,rfl⟩,t,ht,he⟩:=e;cases he;rw[List.mapM_cons];rw[qY (show(do pure (f.offset,← sizeOf f.type):Sem (Nat×Nat)).run P w=.ok (f.offset,n) w from by rw[qY (Ae.run_sizeOf hn)];rfl)];rw[qY (ih ht)];rfl
theorem qJS {fs:Array Field} {pl:List (Nat×Nat)} (e:wR P fs.toList=some pl):(fs.mapM λf=>(do pure (f.offset,← sizeOf f.type):Sem (Nat×Nat))).run P w=.ok pl.toArray w:=by rw[Array.mapM_eq_mapM_toList];show((fs.toList.mapM λf=>(do pure (f.offset,← sizeOf f.type):Sem (Nat×Nat)))>>=λl=>pure l.toArray).run P w=_;rw[qY (Zu e)];rfl
theorem qWp {t:TypeId} {parts:Array (Nat×Operand)} (ho:o.op=.build t parts) (hr:dP m D ρ r) (R:Rel P m D h w) (e:bh P c o.op r h fin=some (v,h')):dE P m D h w ((execOp ρ o).run P w) v h':=by
 rw[ho]at e;simp only[bh,qC]at e;obtain⟨z,hz,d,hd,e⟩:=e;obtain⟨z1,z2⟩:=yI (w:=w) (m:=m) (D:=D) hz;simp only[execOp,ho];cases d<;>simp only[reduceCtorEq]at e
 case struct fs=>
  simp only[qC]at e;obtain⟨pl,nA,vs,oE,e⟩:=e;unfold yR at e;simp only[qC,qf]at e;obtain⟨cs,ff,rfl,rfl⟩:=e;have hp1:=qJS (w:=w) nA;have tA:xS (pl.toArray[·]?) r parts.toList=some vs:=by
   have:(λi=>pl.toArray[i]?)=λi=>wM pl i:=by funext i;rw[xR];simp
   rw[this];exact oE
  obtain⟨f1,f2⟩:=VQ hr tA ff (wx z2);refine jn R ?_ f2;unfold Instr.build;rw[qY z1];rw[qY (Ae.run_underlying hd)];simp only[];rw[qY hp1,gj];have eY:(parts.map λ(p:Nat×Operand)=>(p.1,ρ p.2)).toList=parts.toList.map λp=>(p.1,ρ p.2):=by simp
  rw[eY,f1];rfl
 case array n el=>
  simp only[qC]at e;obtain⟨sz,bx,vs,oE,e⟩:=e;unfold yR at e;simp only[qC,qf]at e;obtain⟨cs,ff,rfl,rfl⟩:=e;obtain⟨f1,f2⟩:=VQ hr oE ff (wx z2);refine jn R ?_ f2;unfold Instr.build;rw[qY z1];rw[qY (Ae.run_underlying hd)];simp only[];rw[qY (Ae.run_sizeOf bx),gj];have eY:(parts.map λ(p:Nat×Operand)=>(p.1,ρ p.2)).toList=parts.toList.map λp=>(p.1,ρ p.2):=by simp
  rw[eY,f1];rfl
theorem JS {t:TypeId} {z:List AV} (e:GH P t=some z):∃i za,P.info? t=some i∧en P t=some za∧z=za.cells∧z.length=i.size∧qn z=true∧i.bytes≤65536∧aP P t=some z.length:=by unfold GH at e;simp only[Option.bind_eq_some_iff,jZ,Bool.and_eq_true,Option.some.injEq]at e;obtain⟨i,hi,za,hz,⟨h1,h2,h3⟩,rfl⟩:=e;have h1:=jf h1;exact⟨i,za,hi,hz,rfl,h1,h2,jh h3,by unfold aP;rw[hi,h1];rfl⟩
theorem wb {α:Type} (l:List α) (n:Nat):(yr l n).length=n*l.length:=by
 induction n with
 |zero=>simp[yr]
 |succ n ih=>simp[yr,ih,Nat.succ_mul];omega
theorem My {l:List AV} (hl:aW D l) (n:Nat):aW D (yr l n):=by
 induction n with
 |zero=>trivial
 |succ n ih=>exact yp.2 ⟨hl,ih⟩
theorem qYp {α:Type} [Inhabited α] (l:List α) (n i:Nat) (hi:i<n*l.length):(yr l n)[i]? =some (l.toArray[i%l.toArray.size]!):=by
 induction n generalizing i with
 |zero=>simp at hi
 |succ n ih=>
  have Ew:0<l.length:=by
   rcases Nat.eq_zero_or_pos l.length with h |h
   ·rw[h]at hi;simp at hi
   ·exact h
  simp only[yr];by_cases au:i<l.length
  ·rw[List.getElem?_append_left au];simp only[List.size_toArray];rw[Nat.mod_eq_of_lt au];simp[au]
  ·rw[List.getElem?_append_right omQ,ih (i-l.length) (by rw[Nat.succ_mul]at hi;omega)]
   congr 2
   simp only[List.size_toArray]
   conv=>rhs;rw[show i=(i-l.length)+l.length from by omega,Nat.add_mod_right]
theorem OS (z:List AV) (n:Nat) (m:Mp):((Array.range (n*z.length)).map λi=>(aS m z).toArray[i%(aS m z).toArray.size]!)=(aS m (yr z n)).toArray:=by
 apply Array.ext
 ·simp[wb]
 ·intro i h1 h2;have hi:i<n*z.length:=by simpa using h1
  have hg:=qYp (aS m z) n i (by simpa using hi);have hr:yr (aS m z) n=aS m (yr z n):=by
   clear hg h1 h2 hi
   induction n with
   |zero=>rfl
   |succ n ih=>simp[yr,ih,Xv]
  rw[hr]at hg;simp only[Array.getElem_map,Array.getElem_range,List.getElem_toArray];have:=List.getElem?_eq_some_iff.1 hg;obtain⟨_,hh⟩:=this;exact hh.symm
theorem IZ {α:Type} (f:Nat→α):(Array.range 0).map f= #[]:=by simp
theorem qVb {t:TypeId} {len:Nat} {parts:Array (Nat×Operand)} (ho:o.op=.buildSlice t len parts) (hr:dP m D ρ r) (R:Rel P m D h w) (e:bh P c o.op r h fin=some (v,h')):dE P m D h w ((execOp ρ o).run P w) v h':=by
 rw[ho]at e;simp only[bh,qC]at e;obtain⟨d,hd,e⟩:=e;cases d<;>simp only[reduceCtorEq]at e
 rename_i el;simp only[qC,xv]at e;obtain⟨z,hz,hlen,vs,oE,e⟩:=e;have hlen:=jh hlen;obtain⟨i,za,hi,tB,rfl,sr,ny,Dj,bx⟩:=JS hz;unfold yZ at e;simp only[qC,jZ,qf]at e;obtain⟨cs,ff,I0,rfl,rfl⟩:=e;obtain⟨z1,z2⟩:=yI (w:=w) (m:=m) (D:=D) tB;obtain⟨f1,f2⟩:=VQ hr oE ff (My (wx z2) len);simp only[execOp,ho];refine Et R (w0:={ w with heap:=w.heap.push (.cells (aS m cs).toArray el) }) (room:=0) ?_ rfl rfl rfl rfl (by simp only[cq,CT.aI];exact f2) (M9 (CT.aI _) _ rfl) (.inl rfl);unfold Instr.buildSlice;rw[qY (Ae.run_underlying hd)];simp only[];rw[qY (Ae.run_sizeOf bx)];have dy:¬(len*za.cells.length>2 ^ 24):=by omega
 simp only[dy,if_false];have eY:(parts.map λ(p:Nat×Operand)=>(p.1,ρ p.2)).toList=parts.toList.map λp=>(p.1,ρ p.2):=by simp
 have zs:=OS za.cells len m;have z0:(aS m za.cells).toArray.size=za.cells.length:=by simp
 have last:∀cells,Instr.fill (λi=>some (i*za.cells.length,za.cells.length)) cells (parts.map λ(x:Nat×Operand)=>(x.1,ρ x.2)).toList=some (aS m cs).toArray→
   (match Instr.fill (λi=>some (i*za.cells.length,za.cells.length)) cells (parts.map λ(x:Nat×Operand)=>(x.1,ρ x.2)).toList with
    |some cells=>(do
      let a ← newRow el cells
      pure (Value.slice (some a) len len):Sem Value)
    | _ => stuck "buildSlice: a part of the wrong size").run P w = .ok (cv (fun x => if x = h.nx then (w.heap.size, 0) else m x) (.slice h.nx 0 len len false)) { w with heap := w.heap.push (.cells (aS m cs).toArray el) } := by
  intro cells hh;rw[hh];simp only[];rw[qY (kM el _)];simp[cv]
 split
 ·rename_i h0;rw[qY (show(pure #[]:Sem (Array Value)).run P w=.ok #[] w from rfl)];apply last;rw[eY,h0];have:yr za.cells len=[]:=iA (by rw[wb,h0]);rw[this]at f1;rw[IZ];exact f1
 ·rw[qY z1,gj];rw[qY (show(pure (aS m za.cells).toArray:Sem (Array Value)).run P w=.ok _ w from rfl)];apply last;rw[eY,zs];exact f1
theorem I2 {n:Nat} (h:n≤1073741824):IntKind.i64.wrap (Int.ofNat n)=Int.ofNat n:=by rw[Y7];show(if(9223372036854775808:Int)≤(n:Int)%18446744073709551616 then _ else(n:Int)%18446744073709551616)=(n:Int);rw[iQ omQ];omega
theorem G8 (n:Nat):(askRoom n).run P w=.ok () w:=by
 unfold askRoom
 split<;>rfl
theorem qvd {t:TypeId} {x y:Operand} (ho:o.op=.makeSlice t x y) (hr:dP m D ρ r) (R:Rel P m D h w) (e:bh P c o.op r h fin=some (v,h')):dE P m D h w ((execOp ρ o).run P w) v h':=by
 rw[ho]at e;simp only[bh,qC]at e;obtain⟨d,hd,e⟩:=e;cases d<;>simp only[reduceCtorEq]at e
 rename_i el;simp only[qC]at e;obtain⟨z,hz,a,ha,b,hb,e⟩:=e;obtain⟨a1,a2⟩:=hr _ _ ha;obtain⟨b1,b2⟩:=hr _ _ hb;obtain⟨i,za,hi,tB,rfl,sr,ny,Dj,bx⟩:=JS hz;unfold Qv at e
 split at e
 ·rename_i k1 ln k2 cp;simp only[jZ,qf,Bool.and_eq_true]at e;obtain⟨⟨h1,h2⟩,rfl,rfl⟩:=e;have h1:=jh h1;have h2:=jh h2;obtain⟨z1,z2⟩:=yI (w:=w) (m:=m) (D:=D) tB;simp only[execOp,ho,a1,b1];refine Et R (w0:={ w with heap:=w.heap.push (.cells (aS m (yr za.cells cp)).toArray el) }) (room:=0) ?_ rfl rfl rfl rfl (by simp only[cq,CT.mq];exact My (wx z2) cp) (M9 (CT.mq _ _) _ rfl) (.inl rfl);unfold Instr.makeSlice;rw[qY (Ae.run_underlying hd)];simp only[cv];rw[qY (show(asInt (.int k1 (.ofNat ln))).run P w=.ok (.ofNat ln) w from rfl)];rw[qY (show(asInt (.int k2 (.ofNat cp))).run P w=.ok (.ofNat cp) w from rfl)];rw[qY (Ae.run_typeInfo hi)];simp only[I2 (show ln≤1073741824 by omega),I2 h2];have fA:i.bytes*cp≤65536*1073741824:=Nat.mul_le_mul Dj h2;have lJ:(decide (Int.ofNat cp<0)||decide ((i.bytes:Int)*Int.ofNat cp>2 ^ 48)||decide (Int.ofNat ln<0)||decide (Int.ofNat ln>Int.ofNat cp))=false:=by
   have e1:((i.bytes:Int)*Int.ofNat cp)=((i.bytes*cp:Nat):Int):=by simp
   simp only[Bool.or_eq_false_iff,decide_eq_false_iff_not,e1];refine⟨⟨⟨?_,by omega⟩,?_⟩,?_⟩
   ·show¬((cp:Int)<0);omega
   ·show¬((ln:Int)<0);omega
   ·show¬((ln:Int)>(cp:Int));omega
  simp only[lJ,Bool.false_eq_true,if_false];rw[qY (G8 _)];rw[qY (Ae.run_sizeOf bx)];simp only[show(Int.ofNat cp).toNat=cp from rfl,show(Int.ofNat ln).toNat=ln from rfl];have zs:=OS za.cells cp m
  split
  ·rename_i h0;rw[qY (show(pure #[]:Sem (Array Value)).run P w=.ok #[] w from rfl)];have:yr za.cells cp=[]:=iA (by rw[wb,h0]);rw[h0,this,IZ];rw[qY (kM el _)];simp;rfl
  ·rw[qY z1,gj];rw[qY (show(pure (aS m za.cells).toArray:Sem (Array Value)).run P w=.ok _ w from rfl)];rw[zs,qY (kM el _)];simp
 ·cases e
end Go.Ae
namespace Go.Ae
open Go
variable {P:Program} {m:Mp} {D:Nat→Prop} {h h':AH} {w:World} {c:CV} {ρ:Operand→Value} {r:Operand→Option AV} {o:Oper} {v:AV}
theorem qVH {x:AV} {n:Nat} (e:Gk x=some n):(Builtin.lenOf (cv m x)).run P w=.ok n w:=by
 cases x<;>simp only[Gk,reduceCtorEq,Option.some.injEq]at e<;>subst e
 ·simp only[cv,Builtin.lenOf];show Result.ok (ByteArray.mk _).size w=_;simp[ByteArray.size]
 ·rfl
 ·rfl
 ·rfl
 ·rfl
theorem U3 (R:Rel P m D h w) {x:AV} {sz n:Nat} {l:List AV} (hx:bm D x) (e:JW h sz n x=some l) :
  (Builtin.firstCells sz n (cv m x)).run P w=.ok (aS m l).toArray w∧aW D l:=by
 cases x<;>simp only[JW,reduceCtorEq]at e
 case str s=>
  simp only[Option.map_eq_some_iff]at e;obtain⟨t,ht,rfl⟩:=e;obtain⟨t1,t2⟩:=wg ht;refine⟨?_,?_⟩
  ·simp only[cv,Builtin.firstCells,vk]
   congr 1
   subst t1;rw[ByteArray.data_extract];simp[zN,List.extract_eq_take_drop];rfl
  ·rw[xx];intro v hv;rw[List.mem_map]at hv;obtain⟨b,_,rfl⟩:=hv;trivial
 case slice b off len cp bf=>obtain⟨h1,h2,_⟩:=R.read hx e;exact⟨h1,h2⟩
 case ak=>simp only[Option.some.injEq]at e;subst e;exact⟨rfl,trivial⟩
 case bT a=>simp only[jZ,Option.some.injEq]at e;obtain⟨e1,rfl⟩:=e;have e1:=jf e1;subst e1;refine⟨?_,trivial⟩;simp only[cv,Builtin.firstCells,Nat.zero_mul];simp[loadCells,loadCellsFrom,aS]
 case tail b o o' i1=>simp only[jZ,Option.some.injEq]at e;obtain⟨e1,rfl⟩:=e;have e1:=jf e1;subst e1;refine⟨?_,trivial⟩;simp only[cv,Builtin.firstCells,Nat.zero_mul];simp[loadCells,loadCellsFrom,aS]
def I3 (h:AH) (sz n:Nat) (x:AV) (l:List AV):Prop :=
 JW h sz n x=some l∨∃b off len cap bf c t o,x=.slice b off len cap bf∧h.get b=some (.cells c t o)∧yy (n*sz) (yl off c.toList)=some l
theorem qjb {h:AH} {sz n:Nat} {x:AV} {nc:CT} (e:U6 h sz n x=some nc):I3 h sz n x nc.toList:=by
 cases x<;>simp only[U6,reduceCtorEq]at e
 case slice b off len cap bf=>
  split at e
  ·rename_i c t o hg;exact .inr ⟨b,off,len,cap,bf,c,t,o,rfl,hg,CT.tp e⟩
  ·rename_i t hg;simp only[Option.bind_eq_some_iff]at e;obtain⟨l,hl,e⟩:=e;cases e;refine .inl ?_;simp only[JW,yK,hg,hl,CT.aI]
  ·cases e
 case ak=>cases e;exact .inl rfl
 case bT a=>rw[jZ]at e;obtain⟨e1,e⟩:=e;cases e;refine .inl ?_;simp only[JW,e1,cond_true];rfl
 case tail b o o' i1=>rw[jZ]at e;obtain⟨e1,e⟩:=e;cases e;refine .inl ?_;simp only[JW,e1,cond_true];rfl
 case str s=>simp only[Option.bind_eq_some_iff]at e;obtain⟨l,hl,e⟩:=e;cases e;refine .inl ?_;simp only[JW,hl,Option.map_some,CT.aI]
theorem qKS (mz:Nat):∀(rounds c:Nat),c≤2*mz+1000→Builtin.growBy mz rounds c≤2*mz+1000:=by
 intro rounds
 induction rounds with
 |zero=>intro c h;exact h
 |succ n ih=>
  intro c h;unfold Builtin.growBy
  split
  ·exact h
  ·apply ih;omega
theorem qz1 {aK cap:Nat} (h:cap<aK):Builtin.nextslicecap aK cap≤2*aK+1000:=by
 unfold Builtin.nextslicecap
 split
 ·omega
 ·split
  ·omega
  ·exact qKS aK 4 cap omQ
theorem qJC {t u:TypeId} {ts:List TypeId} {ty:TypeId} {e:TypeId} {du:TypeDesc} {i:TypeInfo} {za:AV} {s x:Value} {base:Option Addr} {da eu n:Nat} {new:Array Value}
  (ht:P.underlying t=some (.slice e)) (hu:P.underlying u=some du) (Ex:∀k,du≠.int k) (hi:P.info? e=some i) (tB:en P e=some za) (hz:za.cells.length=i.size) (hb:i.bytes≤65536)
  (hs:s=.slice base da eu) (hlen:(Builtin.lenOf x).run P w=.ok n w) (oF:∀W:World,W.heap=w.heap→(Builtin.firstCells i.size n x).run P W=.ok new W) :
  (da+n≤eu→(Builtin.append_ (t::u::ts).toArray ty [s,x].toArray).run P w=
   (do (match(generalizing:=false) base with |some a=>storeCells (a.add (da*i.size)) new.toList |none=>pure ());pure (.slice base (da+n) eu):Sem Value).run P w)∧
  (¬da+n≤eu→da+n≤67108864→∀cW:Array Value,(∀W:World,W.heap=w.heap→(Builtin.firstCells i.size da s).run P W=.ok cW W)→
   ∃(cap:Nat) (rest:Array Value),da+n≤cap∧rest.size=(cap-(da+n))*i.size∧
    (Builtin.append_ (t::u::ts).toArray ty [s,x].toArray).run P w=.ok (.slice (some ⟨w.heap.size,0,none⟩) (da+n) cap) { w with drawn:=w.drawn+1,heap:=w.heap.push (.cells (cW++new++rest) e) }):=by
 subst hs;have bx:aP P e=some i.size:=by unfold aP;rw[hi];rfl
 unfold Builtin.append_;simp only[List.getElem?_toArray,List.getElem?_cons_zero,List.getElem?_cons_succ];rw[qY (Ae.run_underlying ht)];simp only[];rw[qY (Ae.run_sizeOf bx)];rw[qY (Ae.run_underlying hu)];cases du<;>first |(exact absurd rfl (Ex _)) |skip
 all_goals
  rw[qY (show(pure _:Sem Bool).run P w=.ok false w from rfl)];simp only[Bool.false_eq_true,if_false,Bool.not_false,if_true];rw[qY hlen];constructor
  ·intro hle;simp only[iJ hle];rw[qY (oF w rfl)];cases base<;>rfl
  ·intro Ey Ez cW hold;simp only[iQ Ey];rw[qY (Ae.run_typeInfo hi)];have h1:¬(((da+n:Nat):Int)>IntKind.i64.max∧(False∨i.bytes=0)):=by
    rintro⟨hh,_⟩;have:((da+n:Nat):Int)>9223372036854775807:=hh;omega
   simp only[iQ h1];rw[qY (Ae.run_typeInfo hi)];have h2:¬(Builtin.nextslicecap (da+n) eu*i.bytes>2 ^ 48):=by have a1:=qz1 (show eu<da+n by omega);have a2:Builtin.nextslicecap (da+n) eu*i.bytes≤134219728*65536:=Nat.mul_le_mul omQ hb;omega
   simp only[iQ h2];refine⟨(Question.appendCap (da+n) eu e).cut (w.tape w.drawn (.appendCap (da+n) eu e)),(Builtin.zeroCells (aS (λ_=>(0,0)) za.cells).toArray ((Question.appendCap (da+n) eu e).cut (w.tape w.drawn (.appendCap (da+n) eu e))-(da+n))),?_,?_,?_⟩
   ·simp only[Question.cut];omega
   ·simp[Builtin.zeroCells,hz]
   ·rw[qY (show(choose (.appendCap (da+n) eu e)).run P w=.ok _ { w with drawn:=w.drawn+1 }from rfl)];rw[qY (Ae.run_typeInfo hi)];rw[qY (G8 _)];rw[qY (hold { w with drawn:=w.drawn+1 } rfl)];rw[qY (oF { w with drawn:=w.drawn+1 } rfl)];rw[qY (yI (m:=λ_=>(0,0)) (D:=λ_=>True) tB).1];rw[qY (kM e _),gj];rfl
theorem Rel.kill (r:Rel P m D h w) (b:Nat) (hb:D b):Ext m D h w m D (h.put b .dead) w∧Rel P m D (h.put b .dead) w:=by
 refine Ext.rel r ?_;have cJ:∀b',b'≠b→(h.put b .dead).get b'=h.get b':=λb' hn=>AH.bn h .dead (λe=>hn e.symm);have bO:∀b',live (h.put b .dead) b'→live h b':=λb' hl=>by
  by_cases e:b'=b
  ·subst e;obtain⟨x,hx,rA⟩:=hl;rw[AH.aQ]at hx;cases hx;exact rA.elim
  ·unfold live at*;rw[cJ b' e]at hl;exact hl
 refine⟨⟨λ_ h=>h,λ_ _=>rfl,Nat.le_refl _,?_,Nat.le_refl _,?_,rfl,rfl,rfl,λb=>⟨.inl,λhb=>hb.elim id λhb=>by simp at hb;omega⟩,?_⟩,⟨?_,?_,?_,?_⟩⟩
 ·intro c hc hn;refine⟨rfl,?_⟩;rintro⟨b',bB,dO,he⟩;exact hn ⟨b',bB,bO b' dO,he⟩
 ·intro b' bB hn;exact⟨cJ b' (λe=>hn (e▸hb)),hn⟩
 ·intro b' t bB hg;by_cases e:b'=b
  ·subst e;rw[AH.aQ]at hg;cases hg
  ·exact⟨bB,by rw[← cJ b' e];exact hg⟩
 ·intro b' bB;by_cases e:b'=b
  ·subst e;exact⟨.dead,AH.aQ h b' _,trivial,trivial⟩
  ·obtain⟨y,hy,fI,eU⟩:=r.bp b' bB;exact⟨y,(cJ b' e).trans hy,fI,eU⟩
 ·intro b1 b2 h1 h2 l1 l2 he;exact r.inj b1 b2 h1 h2 (bO b1 l1) (bO b2 l2) he
 ·intro b' bB;exact r.lt b' bB
 ·rintro b' t bB hg ⟨b2,dS,lq,he⟩;by_cases e:b'=b
  ·subst e;rw[AH.aQ]at hg;cases hg
  ·rw[cJ b' e]at hg;exact r.cI b' t bB hg ⟨b2,dS,bO b2 lq,he⟩
theorem Rel.A1 {w0:World} (r:Rel P m D h w) (b:Nat) (x:cy) (hb:D b) (nw:live h b)
  (AS:w0.heap.size=w.heap.size) (dY:∀c,c≠(m b).1→w0.heap[c]? =w.heap[c]?) (tu:w0.os=w.os) (fP:w0.tape=w.tape) (fw:w0.output=w.output)
  (hx:cq D x) (lH:cR P m x (m b) w0) (fH:∀t,x≠.cI t:=by intro t hh;cases hh) :
  let m':Mp:=λb'=>if b'=h.nx then m b else m b'
  let D':Nat→Prop:=λb'=>b'=h.nx∨D b'
  Ext m D h w m' D' ((h.put b .dead).new x) w0∧Rel P m' D' ((h.put b .dead).new x) w0:=by
 intro m' D';refine Ext.rel r ?_;have EA:b≠h.nx:=by have:=r.lt b hb;omega
 have hm:∀b',D b'→m' b'=m b':=λb' bB=>by
  have:=r.lt b' bB;simp only[m'];rw[iQ omQ]
 have fB:m' h.nx=m b:=by simp[m']
 have cJ:∀b',D b'→b'≠b→((h.put b .dead).new x).get b'=h.get b':=λb' bB hn=>by
  rw[AH.bJ _ x (show(h.put b .dead).nx≠b' by have:=r.lt b' bB;simp;omega),AH.bn h .dead (λe=>hn e.symm)]
 have mT:((h.put b .dead).new x).get b=some .dead:=by rw[AH.bJ _ x (show(h.put b .dead).nx≠b by simp;omega),AH.aQ]
 have A3:¬live ((h.put b .dead).new x) b:=by rintro⟨y,hy,ia⟩;rw[mT]at hy;cases hy;exact ia
 have bO:∀b',D b'→live ((h.put b .dead).new x) b'→live h b'∧b'≠b:=λb' bB hl=>by
  have hn:b'≠b:=λe=>A3 (e▸hl);refine⟨?_,hn⟩;unfold live at*;rw[cJ b' bB hn]at hl;exact hl
 refine⟨⟨λb' h=>.inr h,hm,by omega,?_,Nat.le_succ _,?_,tu,fP,fw,λb'=>(show b'=h.nx∨D b'↔D b'∨(h.nx≤b'∧b'<h.nx+1)from⟨λhh=>hh.elim (λe=>.inr omQ) .inl,λhh=>hh.elim .inr λe=>.inl omQ⟩),?_⟩,⟨?_,?_,?_,?_⟩⟩
 ·intro c hc hn;have I4:c≠(m b).1:=λe=>hn ⟨b,hb,nw,e.symm⟩;refine⟨dY c I4,?_⟩;rintro⟨b',bB,dO,he⟩;rcases bB with rfl |bB
  ·rw[fB]at he;exact I4 he.symm
  ·rw[hm b' bB]at he;exact hn ⟨b',bB,(bO b' bB dO).1,he⟩
 ·intro b' bB hn;have cS:b'≠b:=λe=>hn (e▸hb);refine⟨?_,?_⟩
  ·rw[AH.bJ _ x (show(h.put b .dead).nx≠b' by simp;omega),AH.bn h .dead (λe=>cS e.symm)]
  ·rintro(rfl |hd)
   ·omega
   ·exact hn hd
 ·intro b' t bB hg;rcases bB with rfl |bB
  ·have n7:((h.put b .dead).new x).get h.nx=some x:=AH.br (h.put b .dead) x;rw[n7]at hg;cases hg;exact absurd rfl (fH t)
  ·by_cases e:b'=b
   ·subst e;rw[mT]at hg;cases hg
   ·exact⟨bB,by rw[← cJ b' bB e];exact hg⟩
 ·intro b' bB;rcases bB with rfl |bB
  ·refine⟨x,AH.br (h.put b .dead) x,?_,hx.mono λb hb=>.inr hb⟩;rw[fB];exact lH.congr hm hx rfl
  ·by_cases e:b'=b
   ·subst e;exact⟨.dead,mT,trivial,trivial⟩
   ·obtain⟨y,hy,fI,eU⟩:=r.bp b' bB;refine⟨y,(cJ b' bB e).trans hy,?_,eU.mono λb hb=>.inr hb⟩;rw[hm b' bB];cases y with
    |dead=>trivial
    |cI t=>exact fI.congr hm eU (dY _ λee=>r.cI b' t bB hy ⟨b,hb,nw,ee.symm⟩)
    |_=>exact fI.congr hm eU (dY _ λee=>e (r.inj b' b bB hb ⟨_,hy,by exact True.intro⟩ nw ee))
 ·intro b1 b2 h1 h2 l1 l2 he;rcases h1 with rfl |h1<;>rcases h2 with rfl |h2
  ·rfl
  ·exfalso;obtain⟨q1,q2⟩:=bO b2 h2 l2;rw[fB,hm b2 h2]at he;exact q2 (r.inj b b2 hb h2 nw q1 he).symm
  ·exfalso;obtain⟨q1,q2⟩:=bO b1 h1 l1;rw[fB,hm b1 h1]at he;exact q2 (r.inj b1 b h1 hb q1 nw he)
  ·rw[hm b1 h1,hm b2 h2]at he;exact r.inj b1 b2 h1 h2 (bO b1 h1 l1).1 (bO b2 h2 l2).1 he
 ·intro b' bB;rcases bB with rfl |bB
  ·simp
  ·have:=r.lt b' bB;simp;omega
 ·rintro b1 t h1 hg ⟨b2,h2,l2,he⟩;rcases h1 with rfl |h1
  ·have n7:((h.put b .dead).new x).get h.nx=some x:=AH.br (h.put b .dead) x;rw[n7]at hg;cases hg;rcases h2 with rfl |h2
   ·obtain⟨y,hy,ia⟩:=l2;rw[n7]at hy;cases hy;exact ia
   ·obtain⟨q1,q2⟩:=bO b2 h2 l2;rw[fB,hm b2 h2]at he;exact q2 (r.inj b2 b h2 hb q1 nw he)
  ·by_cases e:b1=b
   ·subst e;rw[mT]at hg;cases hg
   ·rw[cJ b1 h1 e]at hg;rw[hm b1 h1]at he;rcases h2 with rfl |h2
    ·rw[fB]at he;exact r.cI b1 t h1 hg ⟨b,hb,nw,he⟩
    ·rw[hm b2 h2]at he;exact r.cI b1 t h1 hg ⟨b2,h2,(bO b2 h2 l2).1,he⟩
theorem Rel.heap {W:World} (R:Rel P m D h w) (hW:W.heap=w.heap):Rel P m D h W :=
 ⟨⟨λb hb=>by
  obtain⟨x,hx,hr,hd⟩:=R.bp b hb
  exact⟨x,hx,hr.congr (λ_ _=>rfl) hd (by rw[hW]),hd⟩,R.inj,R.lt,R.cI⟩,λp hp=>by
  obtain⟨g,h1,h2,h3⟩:=R.gl p hp
  exact⟨g,h1,(X8 h1 h2).2 (by rw[hW]),h3⟩⟩
theorem EB {ct:CT} {cs:List AV} (uW:ct.toList=cs) {t:TypeId} {w0:World} {cap n:Nat} {rest:Array Value} (bx:aP P t=some n) (hc:cs.length≤cap*n) (hr:rest.size=cap*n-cs.length)
  (sn:w0.heap=w.heap.push (.cells ((aS m cs).toArray++rest) t)):cR P m (.cells ct t true) (w.heap.size,cap) w0:=by
 subst uW;refine⟨rest.toList,(0,0),?_,(λhh=>by cases hh),(λi _=>by simp),λ_ k hk=>?_⟩
 ·rw[sn];simp
 ·rw[bx]at hk;cases hk;refine⟨hc,?_⟩;show cap*n≤ct.toList.length+rest.toList.length;have tC:rest.toList.length=rest.size:=Array.length_toList;omega
theorem Uv (R:Rel P m D h w) {x:AV} {sz n:Nat} {l:List AV} (hx:bm D x) (e:I3 h sz n x l):(Builtin.firstCells sz n (cv m x)).run P w=.ok (aS m l).toArray w∧aW D l:=by
 rcases e with e |⟨b,off,len,cap,bf,c,t,o,rfl,hg,e⟩
 ·exact U3 R hx e
 ·obtain⟨h1,h2,_⟩:=R.oA hx hg e;exact⟨h1,h2⟩
theorem qVu {cl:Call} (ho:o.op=.call cl) (hc:cl.callee=.builtin .append) (hr:dP m D ρ r) (R:Rel P m D h w) (e:bh P c o.op r h fin=some (v,h')):dE P m D h w ((execOp ρ o).run P w) v h':=by
 obtain⟨cs,hx⟩:=JV (P:=P) (w:=w) (ρ:=ρ) ho hc;rw[ho]at e;simp only[bh,hc]at e
 split at e
 ·rename_i s x t u ts ha dF;simp only[qC]at e;obtain⟨du,Ex,e⟩:=e;have fH:(∀k,du≠.int k)∧∃el z vs vx,P.underlying t=some (.slice el)∧GH P el=some z∧r s=some vs∧r x=some vx∧vC h el z.length vs vx fin=some (v,h'):=by
   split at e
   ·cases e
   ·rename_i hn;simp only[qC]at e;obtain⟨d,hd,e⟩:=e;cases d<;>simp only[reduceCtorEq]at e
    rename_i el;simp only[qC]at e;obtain⟨z,hz,vs,oE,vx,tD,e⟩:=e;exact⟨λk hk=>hn k hk,el,z,vs,vx,hd,hz,oE,tD,e⟩
  obtain⟨fH,el,z,vs,vx,ht,hz,oE,tD,e⟩:=fH;obtain⟨s1,s2⟩:=hr _ _ oE;obtain⟨x1,x2⟩:=hr _ _ tD;obtain⟨i,za,hi,tB,rfl,sr,ny,Dj,bx⟩:=JS hz;rw[sr]at bx e;unfold vC at e;simp only[qC,jZ]at e;obtain⟨n,hn,nc,hnc,oG,e⟩:=e;have oG:=jf oG;rw[CT.dl]at oG;have fB:=qjb hnc;obtain⟨new,dy⟩:∃new,nc.toList=new:=⟨_,rfl⟩;rw[dy]at oG fB;have hnd:aW D new:=(Uv R x2 fB).2;rw[hx,QC ha,QC dF];simp only[List.map_toArray,List.map_cons,List.map_nil,s1,x1];have fb:=λ(base:Option Addr) (da eu:Nat) (hb:cv m vs=.slice base da eu)=>qJC (w:=w) (ty:=o.type) (ts:=ts) ht Ex fH hi tB sr Dj hb (qVH hn) (λW hW=>(Uv (R.heap hW) x2 fB).1)
  have done:∀{z:Value} {w0:World},(Builtin.append_ (t::u::ts).toArray o.type [cv m vs,cv m vx].toArray).run P w=.ok z w0→
    (builtin .append (t::u::ts).toArray o.type cs [cv m vs,cv m vx].toArray).run P w=.ok (.value z) w0:=by
   intro z w0 hh;show(do pure (Next.value (← Builtin.append_ (t::u::ts).toArray o.type [cv m vs,cv m vx].toArray)):Sem Next).run P w=_;rw[qY hh];rfl
  have store:∀(b off len fS:Nat) (bf:Bool) (rm:Nat) (h1:AH),vs=.slice b off len rm bf→cv m vs=.slice (some ⟨(m b).1,off,none⟩) len fS→len+n≤fS→gC h b (off+len*i.size) new=some h1→
    dE P m D h w ((builtin .append (t::u::ts).toArray o.type cs [cv m vs,cv m vx].toArray).run P w) (.slice b off (len+n) rm bf) h1:=by
   intro b off len fS bf rm h1 tA iN hle hw;obtain⟨a1,_⟩:=fb _ _ _ iN;subst tA;obtain⟨w',cK,tw,eX⟩:=R.write s2 hnd hw;refine⟨m,D,w',.inl (done ?_),tw,eX,s2⟩;rw[a1 hle];simp only[];rw[wG,qY cK];simp only[cv,Value.slice.injEq]at iN ⊢;obtain⟨_,_,rfl⟩:=iN;rfl
  have su:∀(b off len fS:Nat),cv m vs=.slice (some ⟨(m b).1,off,none⟩) len fS→n=0→len≤fS→
    dE P m D h w ((builtin .append (t::u::ts).toArray o.type cs [cv m vs,cv m vx].toArray).run P w) vs h:=by
   intro b off len fS iN lu hle;obtain⟨a1,_⟩:=fb _ _ _ iN;subst lu;have:new=[]:=iA omQ;subst this;refine⟨m,D,w,.inl (done ?_),Ext.refl ..,R,s2⟩;rw[a1 omQ,iN];rfl
  have grow:∀(b off len fS:Nat) (cW:List AV),cv m vs=.slice (some ⟨(m b).1,off,none⟩) len fS→D b→¬len+n≤fS→len+n≤67108864→(yK h b off (len*i.size)=some cW∨∃c t o,h.get b=some (.cells c t o)∧yy (len*i.size) (yl off c.toList)=some cW)→
    ∃cap rest w0,(Builtin.append_ (t::u::ts).toArray o.type [cv m vs,cv m vx].toArray).run P w=.ok (.slice (some ⟨w.heap.size,0,none⟩) (len+n) cap) w0∧
     w0.heap=w.heap.push (.cells ((aS m (cW++new)).toArray++rest) el)∧w0.os=w.os∧w0.tape=w.tape∧w0.output=w.output∧(cW++new).length≤cap*i.size∧rest.size=cap*i.size-(cW++new).length∧aW D (cW++new):=by
   intro b off len fS cW iN hb hle sx hold;obtain⟨_,a2⟩:=fb _ _ _ iN;have rd:∀{W:World},Rel P m D h W→(loadCells ⟨(m b).1,off,none⟩ (len*i.size)).run P W=.ok (aS m cW).toArray W∧aW D cW∧cW.length=len*i.size:=by
    intro W RW;rcases hold with hold |⟨c,t,o,hg,hold⟩
    ·exact RW.read hb hold
    ·exact RW.oA hb hg hold
   obtain⟨o1,o2,o3⟩:=rd R;obtain⟨cap,rest,c1,c2,c3⟩:=a2 hle sx (aS m cW).toArray (λW hW=>by rw[iN];exact(rd (R.heap hW)).1);have hl:(cW++new).length=(len+n)*i.size:=by rw[List.length_append,o3,oG,Nat.add_mul]
   refine⟨cap,rest,_,c3,?_,rfl,rfl,rfl,?_,?_,yp.2 ⟨o2,hnd⟩⟩
   ·simp[Xv]
   ·rw[hl];exact Nat.mul_le_mul_right _ c1
   ·rw[hl,c2,Nat.sub_mul]
  unfold yN at e;simp only[dy]at e
  split at e
  ·--nil
   obtain⟨a1,a2⟩:=fb none 0 0 rfl;cases lu:Nat.beq n 0
   ·have mA:=yb lu;rw[lu]at e;simp only[cond_false,jZ,qf]at e;obtain⟨sx,rfl,rfl⟩:=e;have sx:=jh sx;obtain⟨cap,rest,c1,c2,c3⟩:=a2 omQ omQ #[] (λW hW=>by simp[Builtin.firstCells];rfl);have lK:rest.size=cap*i.size-new.length:=by rw[c2,oG,Nat.zero_add,Nat.sub_mul]
    have A4:new.length≤cap*i.size:=by rw[oG];exact Nat.mul_le_mul_right _ omQ
    obtain⟨ex,re⟩:=R.new (.cells nc el true) _ cap (w0:={ w with drawn:=w.drawn+1,heap:=w.heap.push (.cells (#[]++(aS m new).toArray++rest) el) }) rfl rfl rfl rfl (by simp only[cq,dy];exact hnd)
     (EB dy bx A4 lK aN)
    refine⟨_,_,_,.inl (done ?_),ex,re,.inl rfl⟩;rw[c3];simp[cv]
   ·have mA:=jf lu;subst mA;rw[lu]at e;simp only[cond_true,qf]at e;obtain⟨rfl,rfl⟩:=e;refine⟨m,D,w,.inl (done ?_),Ext.refl ..,R,trivial⟩;rw[a1 omQ];rfl
  ·rename_i b off len cap;cases hle:Nat.ble (len+n) cap
   ·have A5:=Ga hle;rw[hle]at e;simp only[cond_false,jZ,qC]at e;obtain⟨sx,cW,hold,e⟩:=e;have sx:=jh sx;simp only[qf]at e;obtain⟨rfl,rfl⟩:=e;obtain⟨c',rest,w0,g1,g2,g3,g4,g5,g6,g7,g8⟩:=grow b off len cap cW rfl s2 omQ sx (.inl hold);have oH:(bif Nat.beq len 0 then nc else CT.ofList (cW++new)).toList=cW++new:=by
     cases my:Nat.beq len 0
     ·exact CT.aI _
     ·have h0:=jf my;have ho:cW=[]:=iA (by have:=(R.read s2 hold).2.2;rw[h0,Nat.zero_mul]at this;exact this);rw[ho];exact dy
    obtain⟨ex,re⟩:=R.new (.cells (bif Nat.beq len 0 then nc else CT.ofList (cW++new)) el true) _ c' g2 g3 g4 g5 (by simp only[cq,oH];exact g8) (EB oH bx g6 g7 g2);refine⟨_,_,_,.inl (done ?_),ex,re,.inl rfl⟩;rw[g1];simp[cv]
   ·have A5:=jh hle;rw[hle]at e;simp only[cond_true]at e;cases lu:Nat.beq n 0
    ·rw[lu]at e;simp only[cond_false,qC,qf]at e;obtain⟨h1,hw,rfl,rfl⟩:=e;exact store b off len cap false cap h1 rfl rfl A5 hw
    ·have mA:=jf lu;rw[lu]at e;simp only[cond_true,qf]at e;obtain⟨rfl,rfl⟩:=e;exact su b off len cap rfl mA omQ
  ·rename_i b off len i0
   split at e
   ·rename_i cells e' hg;simp only[jZ,Bool.and_eq_true]at e;obtain⟨⟨f1,f2,f3,f4⟩,e⟩:=e;have f1:=jh f1;have f2:=jf f2;have f3:=jf f3;have f4:=jh f4;rw[CT.dl]at f4;subst f3;obtain⟨rest,fr,k1,k2,k3,k4,k5⟩:=R.cells s2 hg;obtain⟨k4a,k4b⟩:=k4 rfl _ bx;have oD:i0+len≤(m b).2:=by
     have:(i0+len)*i.size≤(m b).2*i.size:=by rw[Nat.add_mul];omega
     exact Nat.le_of_mul_le_mul_right this f1
    cases lu:Nat.beq n 0
    ·have mA:=yb lu;rw[lu]at e;simp only[cond_false]at e;cases dA:Nat.ble (off+(len+n)*i.size) cells.len
     ·have tF:=Ga dA;rw[CT.dl]at tF;rw[dA]at e;simp only[cond_false,jZ,qC,Bool.and_eq_true,qf]at e;obtain⟨⟨g0,gs,A6⟩,oI,A7,rfl,rfl⟩:=e;have hold:=CT.mu A7;obtain⟨cW,I5⟩:∃cW,oI.toList=cW:=⟨_,rfl⟩;rw[I5]at hold;have fC:(oI.fb new).toList=cW++new:=by rw[CT.oy,I5]
      have g0:=jf g0;have gs:=jh gs;subst g0;simp only[Nat.zero_mul]at f2;subst f2;by_cases hle:len+n≤(m b).2
      ·--it grows where it lies
       have hlr:(len+n)*i.size≤(m b).2*i.size:=Nat.mul_le_mul_right _ hle;have hln:(len+n)*i.size=len*i.size+n*i.size:=Nat.add_mul ..;obtain⟨w',q1,q2⟩:=JU (P:=P) (0+len*i.size) (aS m new) 0 w _ k1 (by simp;omega) (OU m A6) (by simpa using k3);obtain⟨a1,_⟩:=fb _ _ _ rfl;have A8:cW=cells.toList.take (len*i.size)∧len*i.size≤cells.toList.length:=wg hold;obtain⟨o1,o2⟩:=A8;have fD:cW.length=len*i.size:=by rw[o1,List.length_take];omega
       have tG:cq D (.cells (oI.fb new) el true):=by simp only[cq,fC];rw[o1];exact yp.2 ⟨Qa _ k5,hnd⟩
       obtain⟨ex,re⟩:=R.A1 b (.cells (oI.fb new) el true) s2 (IS hg trivial) q2.size q2.other q2.os q2.tape q2.output tG (by
        simp only[cR,fC];refine⟨(aS m cells.toList++rest).drop ((len+n)*i.size),fr,?_,(λhh=>by cases hh),?_,λ_ k hk=>?_⟩
        ·rw[q2.at_]
         congr 2
         have e1:(aS m cells.toList++rest).take (0+len*i.size+0)=aS m cW:=by rw[o1,zN,zN,List.take_append_of_le_length (by simp;omega)];simp[List.map_take]
         have e2:0+len*i.size+0+(aS m new).length=(len+n)*i.size:=by rw[dK,oG,hln];omega
         rw[e1,e2,Xv]
        ·intro j hj;apply k3 j;simp only[List.length_append,List.length_drop,dK,fD,oG]at hj;omega
        ·rw[bx]at hk;cases hk;constructor
         ·rw[List.length_append,fD,oG];show _≤(m b).2*i.size;omega
         ·show(m b).2*i.size≤(cW++new).length+((aS m cells.toList++rest).drop _).length;simp only[List.length_append,List.length_drop,dK,fD,oG]
          omega)
       refine⟨_,_,w',.inl (done ?_),ex,re,.inl rfl⟩;rw[a1 (by simpa using hle)];simp only[];rw[wG,qY q1];simp[cv]
      ·obtain⟨c',I6,w0,g1,g2,g3,g4,g5,g6,g7,g8⟩:=grow b 0 len ((m b).2-0) cW rfl s2 omQ gs (.inr ⟨_,_,_,hg,hold⟩);obtain⟨ex1,re1⟩:=R.kill b s2;obtain⟨ex,re⟩:=re1.new (.cells (oI.fb new) _ true) _ c' g2 g3 g4 g5 (by simp only[cq,fC];exact g8) (EB fC bx g6 g7 g2);refine⟨_,_,_,.inl (done ?_),ex1.trans ex,re,.inl rfl⟩;rw[g1];simp[cv]
     ·have tF:=jh dA;rw[CT.dl]at tF;rw[dA]at e;simp only[cond_true,qC,qf]at e;obtain⟨h1,hw,rfl,rfl⟩:=e;refine store b off len ((m b).2-i0) true i0 h1 rfl rfl ?_ hw;have:(i0+(len+n))*i.size≤(m b).2*i.size:=by rw[Nat.add_mul];omega
      have:=Nat.le_of_mul_le_mul_right this f1;omega
    ·have mA:=jf lu;rw[lu]at e;simp only[cond_true,qf]at e;obtain⟨rfl,rfl⟩:=e;exact su b off len ((m b).2-i0) rfl mA omQ
   ·cases e
  ·cases e
 ·cases e
end Go.Ae
namespace Go.Ae
open Go
variable {P:Program} {m:Mp} {D:Nat→Prop} {h h':AH} {w:World} {c:CV} {ρ:Operand→Value} {r:Operand→Option AV} {o:Oper} {v:AV}
theorem qQS {l:List AV} {s:List UInt8} (e:wD l=some s):∃ns:List Int,aS m l=ns.map (Value.int .u8)∧∀acc:ByteArray,ns.foldl (λr n=>r.push (UInt8.ofNat n.toNat)) acc=⟨acc.data++s.toArray⟩:=by
 induction l generalizing s with
 |nil=>simp[wD]at e;subst e;exact⟨[],rfl,λacc=>by simp⟩
 |cons a l ih=>
  unfold wD at e
  split at e
  ·rename_i mB;cases mB
  ·rename_i n r mB;cases mB;simp only[Option.bind_eq_some_iff]at e;obtain⟨t,ht,e⟩:=e;cases e;obtain⟨ns,h1,h2⟩:=ih ht;refine⟨.ofNat n::ns,by simp[aS,cv,h1],λacc=>?_⟩;simp only[List.foldl_cons,h2];show ByteArray.mk ((acc.push (UInt8.ofNat n)).data++t.toArray)=_
   congr 1
   rw[ByteArray.data_push];apply Array.ext';simp
  ·cases e
theorem qvI {s d:TypeId} {x:Operand} (ho:o.op=.convert s d x) (hr:dP m D ρ r) (R:Rel P m D h w) (e:bh P c o.op r h fin=some (v,h')):dE P m D h w ((execOp ρ o).run P w) v h':=by
 rw[ho]at e;simp only[bh,qC]at e;obtain⟨a,ha,ds,Dk,dd,uY,e⟩:=e;obtain⟨a1,a2⟩:=hr _ _ ha;simp only[execOp,ho,a1];cases dd<;>simp only[reduceCtorEq]at e
 case int k=>
  cases ds<;>simp only[reduceCtorEq]at e
  unfold vM at e
  split at e
  ·simp only[qf]at e;obtain⟨rfl,rfl⟩:=e;refine jn R ?_ trivial;unfold convert;rw[qY (Ae.run_underlying Dk),qY (Ae.run_underlying uY)];simp only[cv,ka];rfl
  ·cases e
 case string=>
  cases ds<;>simp only[reduceCtorEq]at e
  case string=>
   unfold X9 at e
   split at e
   ·simp only[qf]at e;obtain⟨rfl,rfl⟩:=e;refine jn R ?_ trivial;unfold convert;rw[qY (Ae.run_underlying Dk),qY (Ae.run_underlying uY)];simp only[cv];rfl
   ·cases e
  case slice el=>
   simp only[qC]at e;obtain⟨de,Dl,e⟩:=e;have hu8:de=.int .u8∧Xd h a (λz=>fin z h)=some (v,h'):=by
    split at e
    ·exact⟨rfl,e⟩
    ·cases e
   obtain⟨rfl,e2⟩:=hu8;unfold Xd at e2
   split at e2
   ·simp only[qf]at e2;obtain⟨rfl,rfl⟩:=e2;refine jn R ?_ trivial;unfold convert;rw[qY (Ae.run_underlying Dk),qY (Ae.run_underlying uY)];simp only[cv];rw[qY (Ae.run_underlying Dl)];rfl
   ·rename_i b off len cp bf;simp only[qC,qf]at e2;obtain⟨cs,ff,q,hq,rfl,rfl⟩:=e2;obtain⟨r1,r2,r3⟩:=R.read a2 ff;obtain⟨ns,n1,n2⟩:=qQS (m:=m) hq;refine jn R ?_ trivial;obtain⟨cc,rB⟩:∃cc,cv m (.slice b off len cp bf)=.slice (some ⟨(m b).1,off,none⟩) len cc:=⟨_,rfl⟩;rw[rB];rw[run_convert_bytes_string w s d el _ _ _ Dk Dl uY];rw[run_bytesToString w _ len _ ns (by rw[r1,n1]),n2];simp[cv]
   ·cases e2
end Go.Ae
namespace Go.Ae
open Go
end Go.Ae
namespace Go.Ae
open Go
variable {P:Program} {m:Mp} {D:Nat→Prop} {h h':AH} {w:World} {c:CV} {ρ:Operand→Value} {r:Operand→Option AV} {o:Oper} {v:AV}
theorem I7 (A9:∀cl f,o.op=.call cl→cl.callee≠.value f) (fH:∀cl x n,o.op=.call cl→cl.callee≠.invoke x n) (hr:dP m D ρ r) (R:Rel P m D h w) (e:ch P c o.op r h=some (v,h')):dE P m D h w ((execOp ρ o).run P w) v h':=by
 have e:bh P c o.op r h fin=some (v,h'):=e;cases ho:o.op with
 |move x=>exact qx8 ho hr R e
 |assign x=>exact qK6 ho hr R e
 |pick x y z=>exact qz0 ho hr R e
 |alloc t=>exact qWS ho R e
 |box t x=>exact qg8 ho hr R e
 |build t p=>exact qWp ho hr R e
 |buildSlice t n p=>exact qVb ho hr R e
 |load t x=>exact qx2 ho hr R e
 |store t x y=>exact qYC ho hr R e
 |nilCheck x=>exact qwo ho hr R e
 |binOp op t x y u=>exact qgd ho hr R e
 |unOp op t x=>exact AY ho hr R e
 |convert s d x=>exact qvI ho hr R e
 |makeInterface t x=>exact qY7 ho hr R e
 |makeFunc f x y=>exact Oo ho hr R e
 |makeSlice t x y=>exact qvd ho hr R e
 |slice t x lo hi mx=>exact qqA ho hr R e
 |fieldAddr t x f=>exact qYD ho hr R e
 |field t x f=>exact qzm ho hr R e
 |indexAddr t x i=>exact NB ho hr R e
 |index t x i=>exact qYP ho hr R e
 |typeAssert x xt t ok=>exact qGI ho hr R e
 |extract x i=>exact qQe ho hr R e
 |call cl=>
  cases hc:cl.callee with
  |value f=>exact absurd hc (A9 cl f ho)
  |invoke a b=>exact absurd hc (fH cl a b ho)
  |builtin b=>
   cases b with
   |len=>exact qgh ho hc hr R e
   |min=>exact IX (mx:=false) ho hc hr R e
   |max=>exact IX (mx:=true) ho hc hr R e
   |append=>exact qVu ho hc hr R e
   |_=>rw[ho]at e;simp only[bh,hc,reduceCtorEq]at e
 |_=>rw[ho]at e;simp only[bh,reduceCtorEq]at e
end Go.Ae
namespace Go.Ae
open Go
variable {P:Program} {m:Mp} {D:Nat→Prop} {h h':AH} {w:World} {c:CV} {o:Oper} {v:AV}
def FW (rd:Option Nat):Fence:={ Fence.wide with round:=rd }
def kR (P:Program) (m:Mp) (D:Nat→Prop) (h:AH) (w:World) (r:AV×AH):Ending→World→Prop :=
 λe w'=>∃m' D',e=.returned (cv m' r.1)∧Ext m D h w m' D' r.2 w'∧Rel P m' D' r.2 w'∧bm D' r.1
def Ns (P:Program) (m:Mp) (D:Nat→Prop) (h:AH) (w:World) (args:List AV) (r:AV×AH):AV→Prop
 | .fn f first cap=>(∀as W,(callFunc f as).run P W=.ok (.enter f as) W)∧∀n,CallsIn Fence.wide n P f (aS m (first++args++cap)).toArray w (kR P m D h w r)
 | .yield l=>∃f' tmps assign body,(Instr.yield (m l).1 (aS m args).toArray).run P w=.ok (.round (m l).1 f' tmps assign body) w∧∀n,RoundIn Fence.wide n P (m l).1 f' tmps assign body w (kR P m D h w r)
 |_=>False
def xu (P:Program) (c:CV):Prop :=
 ∀vf args h r,c vf args h=some r→∀m D w,Rel P m D h w→bm D vf→aW D args→Ns P m D h w args r vf
theorem ZM (m:Mp):cv m .undef=undef:=rfl
theorem qWe {l:List (Nat×Nat)} {t f:Nat} (e:KJ l t=some f):(t,f)∈l:=by
 induction l with
 |nil=>cases e
 |cons p l ih=>
  have e':Bool.rec (motive:=λ_=>Option Nat) (KJ l t) (some p.2) (Nat.beq p.1 t)=some f:=e;cases hb:Nat.beq p.1 t
  ·rw[hb]at e';exact iX _ (ih e')
  ·rw[hb]at e';have:=jf hb;subst this;cases e';exact iK ..
theorem qjP {name:String} {t f:Nat}:∀{L:List Nat},(t,f)∈OR P name L→Nk P name t=some f:=by
 intro L
 induction L with
 |nil=>intro h;cases h
 |cons a L ih=>
  intro h;unfold OR at h
  split at h
  ·rename_i g hg;rcases List.mem_cons.1 h with h |h
   ·cases h;exact hg
   ·exact ih h
  ·exact ih h
theorem qJd {name:String} {t f:Nat} (e:Nk P name t=some f) (n:Nat) (x:Value) (w:World):(method (n+1) t x name).run P w=.ok (f,x) w:=by
 simp only[Nk,Option.bind_eq_some_iff]at e;obtain⟨i,hi,mm,hm,e⟩:=e;rw[jZ]at e;obtain⟨hp,e⟩:=e;simp only[Option.bind_eq_some_iff]at e;obtain⟨g,hg,e⟩:=e;obtain⟨gf,gb⟩:=g;rw[jZ]at e;obtain⟨hb,e⟩:=e;simp only at hb;subst hb;simp only[Option.bind_eq_some_iff]at e;obtain⟨d,hd,e⟩:=e
 split at e
 ·rename_i el;cases e;have EC:mm.path= #[]:=by simpa using hp
  have hf:i.methods.find? (·.name==name)=some mm:=by rw[← Array.find?_toList];exact hm
  unfold method;rw [qY (run_typeInfo hi)];simp only [hf, EC, hg];rw [qY (show (follow (#[] : Array FieldStep).toList t (.val x)).run P w = .ok (t, .val x) w from rfl)];simp only [];have hr : (receiverAt t (.val x) true (if (#[] : Array FieldStep).isEmpty = true then some ((name.splitOn ".").getLastD name) else none)).run P w = .ok x w := by unfold receiverAt;rw [qY (run_underlying hd)];rfl
  rw[qY hr];rfl
 ·cases e
theorem OT (hc:xu P c) {rd:Option Nat} {n:Nat} {a:Act} {r:Operand→Option AV} (hr:dP m D a.eval r) (R:Rel P m D h w) (e:ch P c o.op r h=some (v,h'))
  {next:Act→World→Prop} {Q:Exit→Act→World→Prop}
  (hn:∀m' D' w',Ext m D h w m' D' h' w'→Rel P m' D' h' w'→bm D' v→next (a.put o.dst (cv m' v)) w'):o.wpIn (FW rd) n P a w next Q:=by
 have hnd:∀cl,o.op≠.defer cl:=by intro cl dQ;unfold ch at e;rw[dQ]at e;simp only[bh,reduceCtorEq]at e
 refine⟨λ_ _=>trivial,?_⟩;rw[Oper.semAt_eq _ _ _ hnd];by_cases hv:∃cl f,o.op=.call cl∧cl.callee=.value f
 ·obtain⟨cl,f,ho,im⟩:=hv;unfold ch at e;rw[ho]at e;simp only[bh,im,qC]at e;obtain⟨vf,sy,va,rC,e⟩:=e;obtain⟨f1,f2⟩:=hr _ _ sy;obtain⟨v1,v2⟩:=kb hr rC;rw[QQ]at e
  split at e
  ·rename_i q hq;simp only[qf]at e;obtain⟨rfl,rfl⟩:=e;have dv:=hc vf va h q hq m D w R f2 v2;have fR:cl.args.map a.eval=(aS m va).toArray:=by rw[Kw,v1]
   cases vf<;>simp only[Ns]at dv
   case fn f' first cap=>
    obtain⟨k1,k2⟩:=dv;have cK:(execOp a.eval o).run P w=.ok (.enter f' (aS m (first++va++cap)).toArray) w:=by
     simp only[execOp,ho];have h1:(resolve a.eval cl o.type).run P w=.ok { target:=.fn (.func f') (aS m cap).toArray,args:=(aS m first).toArray++(aS m va).toArray } w:=by unfold resolve;rw[im];simp only[f1,cv,fR];rfl
     rw[qY h1];show(invoke (.fn (.func f') (aS m cap).toArray) ((aS m first).toArray++(aS m va).toArray)).run P w=_;unfold invoke;show(callFunc f' ((aS m first).toArray++(aS m va).toArray++(aS m cap).toArray)).run P w=_;rw[k1];simp[Xv]
    rw[cK];refine⟨(λhh=>by cases hh),?_⟩;refine CallsIn.mono (show CallsIn (FW rd) (n-1) P f' _ w _ from k2 (n-1)) ?_;rintro ee w' ⟨m',D',rfl,ex,re,hd⟩;exact hn m' D' w' ex re hd
   case yield l=>
    obtain⟨f',tmps,assign,body,k1,k2⟩:=dv;have cK:(execOp a.eval o).run P w=.ok (.round (m l).1 f' tmps assign body) w:=by
     simp only[execOp,ho];have h1:(resolve a.eval cl o.type).run P w=.ok { target:=.fn (.yield (m l).1) #[],args:=(aS m va).toArray } w:=by unfold resolve;rw[im];simp only[f1,cv,fR,Deferred.ofValue];show Result.ok _ w=_;simp
     rw[qY h1];exact k1
    rw[cK];refine⟨(λhh=>by cases hh),?_⟩;refine RoundIn.mono (show RoundIn (FW rd) (n-1) P _ _ _ _ _ w _ from k2 (n-1)) ?_;rintro ee w' ⟨m',D',rfl,ex,re,hd⟩;exact hn m' D' w' ex re hd
  ·cases e
 ·have A9:∀cl f,o.op=.call cl→cl.callee≠.value f:=λcl f h1 h2=>hv ⟨cl,f,h1,h2⟩;by_cases hi:∃cl x name,o.op=.call cl∧cl.callee=.invoke x name
  ·obtain⟨cl,x,name,ho,im⟩:=hi;unfold ch at e;rw[ho]at e;simp only[bh,im,qC]at e;obtain⟨vx,tD,va,rC,e⟩:=e;obtain⟨f1,f2⟩:=hr _ _ tD;obtain⟨v1,v2⟩:=kb hr rC;unfold yj at e
   split at e
   ·rename_i t y;cases hf:KJ (Nm P name) t with
    |none=>rw[hf]at e;cases e
    |some f=>
     rw[hf]at e;simp only[QQ]at e
     split at e
     ·rename_i q hq;simp only[qf]at e;obtain⟨rfl,rfl⟩:=e;have dv:=hc (.fn f [] []) (y::va) h q hq m D w R ⟨trivial,trivial⟩ ⟨f2,v2⟩;obtain⟨k1,k2⟩:=dv;have fR:cl.args.map a.eval=(aS m va).toArray:=by rw[Kw,v1]
      have cK:(execOp a.eval o).run P w=.ok (.enter f (aS m (y::va)).toArray) w:=by
       simp only[execOp,ho];have h1:(resolve a.eval cl o.type).run P w=.ok { target:=.fn (.method name) #[],args:=#[.iface t (cv m y)]++(aS m va).toArray } w:=by unfold resolve;rw[im];simp only[f1,cv,fR];rfl
       rw[qY h1];show(invoke (.fn (.method name) #[]) (#[.iface t (cv m y)]++(aS m va).toArray)).run P w=_;unfold invoke;simp only[Array.getElem?_append,List.size_toArray,List.length_cons,List.length_nil,Nat.zero_add,Nat.lt_succ_self,if_true];show(callMethod (.iface t (cv m y)) name _).run P w=_;unfold callMethod;simp only[];rw[qY (show(program).run P w=.ok P w from rfl)];have Ba:(method (P.types.size+Made.depth) t (cv m y) name).run P w=.ok (f,cv m y) w:=qJd (qjP (qWe hf)) _ _ _;rw[qY Ba];simp only[];rw[k1];simp[aS,List.take_of_length_le]
      rw[cK];refine⟨(λhh=>by cases hh),?_⟩;have k3:=k2 (n-1);rw[List.nil_append,List.append_nil]at k3;refine CallsIn.mono (show CallsIn (FW rd) (n-1) P f _ w _ from k3) ?_;rintro ee w' ⟨m',D',rfl,ex,re,hd⟩;exact hn m' D' w' ex re hd
     ·cases e
   ·cases e
  have fH:∀cl x n,o.op=.call cl→cl.callee≠.invoke x n:=λcl x n h1 h2=>hi ⟨cl,x,n,h1,h2⟩;obtain⟨m',D',w',bL,ex,re,hd⟩:=I7 (o:=o) A9 fH hr R e;rcases bL with bL |⟨bL,ED⟩
  ·rw[bL];exact hn m' D' w' ex re hd
  ·rw[bL];have:=hn m' D' w' ex re hd;rw[ED,ZM]at this;exact this
end Go.Ae
namespace Go.Ae
open Go
variable {P:Program} {m:Mp} {D:Nat→Prop} {h h':AH} {w:World} {c:CV} {o:Oper} {v:AV}
structure dL (m:Mp) (D:Nat→Prop) (n:Nat) (a:Act) (tm:PT AV):Prop where
  size:n≤a.tmps.size
  at_:∀t v,tm.get t=some v→a.tmps[t]? =some (cv m v)∧bm D v
theorem dL.ev {n:Nat} {a:Act} {tm:PT AV} (T:dL m D n a tm):dP m D a.eval (ev tm):=by
 intro x v e;cases x with
 |tmp t=>simp only[Ae.ev]at e;obtain⟨h1,h2⟩:=T.at_ t v e;refine⟨?_,h2⟩;simp only[Act.eval,Array.getD_eq_getD_getElem?,h1,Option.getD_some]
 |const k=>simp only[Ae.ev]at e;obtain⟨h1,h2⟩:=QR (m:=m) (D:=D) e;exact⟨h1.symm,h2⟩
 |global g=>simp only[Ae.ev,reduceCtorEq]at e
 |func f=>simp only[Ae.ev,Option.some.injEq]at e;subst e;exact⟨by simp[Act.eval,cv,aS],trivial,trivial⟩
theorem dL.mono {m':Mp} {D':Nat→Prop} {w':World} {n:Nat} {a:Act} {tm:PT AV} (T:dL m D n a tm) (e:Ext m D h w m' D' h' w'):dL m' D' n a tm :=
 ⟨T.size,λt v hv=>by
  obtain⟨h1,h2⟩:=T.at_ t v hv
  exact⟨by rw[e.cv h2];exact h1,e.bm h2⟩⟩
theorem dL.put {n:Nat} {a:Act} {tm:PT AV} (T:dL m D n a tm) {dst:Option Tmp} {k:PT AV→R} {r:AV×AH} (hv:bm D v) (e:Un n tm dst v k=some r) :
  ∃tm',k tm'=some r∧dL m D n (a.put dst (cv m v)) tm':=by
 cases dst with
 |none=>exact⟨tm,e,T⟩
 |some d=>
  simp only[Un,xv]at e;obtain⟨hd,e⟩:=e;have hd:=jh hd;refine⟨_,e,by simp[Act.put];exact T.size,?_⟩;intro t u hu;rw[PT.bF]at hu;by_cases ht:d=t
  ·subst ht;rw[iJ rfl]at hu;cases hu;refine⟨?_,hv⟩;have:=T.size;simp[Act.put,Array.getElem?_setIfInBounds_self];omega
  ·rw[iQ ht]at hu;obtain⟨h1,h2⟩:=T.at_ t u hu;exact⟨by simp[Act.put,Array.getElem?_setIfInBounds_ne ht];exact h1,h2⟩
theorem g9 (a:Act) (dst:Option Tmp) (x:Value):(a.put dst x).defers=a.defers:=by cases dst<;>rfl
structure ZE (P:Program) (m:Mp) (D:Nat→Prop) (h:AH) (w:World) (n:Nat) (ds:List Deferred) (a:Act) (tm:PT AV) (m':Mp) (D':Nat→Prop) (h':AH) (w':World):Prop where
  ext:Ext m D h w m' D' h' w'
  rel:Rel P m' D' h' w'
  tm:dL m' D' n a tm
  defers:a.defers=ds
theorem G1 {ops:Array Oper} {a:Act} {dst:Option Tmp} {x:Value} {g:Nat} {p:Oper} {d:Tmp} (hp:ops[g]? =some p) (hd:p.dst=some d) (cS:dst≠some d) :
  yielded ops (a.put dst x).tmps g=yielded ops a.tmps g:=by
 unfold yielded;simp only[hp,Option.bind_some,hd];cases dst with
 |none=>rfl
 |some t=>have:t≠d:=λe=>cS (by rw[e]);simp[Act.put,Array.getElem?_setIfInBounds_ne this]
theorem XH {d:Nat} {l:List Oper} (hw:writes d l=false):∀o∈l,o.dst≠some d:=by
 induction l with
 |nil=>intro o ho;cases ho
 |cons x l ih=>
  simp only[writes,Bool.or_eq_false_iff]at hw;intro o ho;rcases List.mem_cons.1 ho with rfl |ho
  ·intro e;rw[e]at hw;exact yb hw.1 rfl
  ·exact ih hw.2 o ho
end Go.Ae
