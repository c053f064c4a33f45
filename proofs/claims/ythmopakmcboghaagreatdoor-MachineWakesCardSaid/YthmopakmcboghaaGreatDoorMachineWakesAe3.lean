/- The abstract executor of the program's form in Lean, shown sound: new blocks, cuts, appends, copies, conversions, ranges; every operation; calls. -/
import Derived.Test.YthmopakmcboghaaGreatDoorMachineWakesAe2
import Derived.Laws.BytesString
namespace Go.Ae
open Go
variable {P:Program} {m:Mp} {D:Nat→Prop} {h h':AH} {w:World} {c:CV} {ρ:Operand→Value} {r:Operand→Option AV} {o:Oper} {v:AV}
theorem UO (R:Rel P m D h w) {s:Sem Value} {b:cG} {ob_:Obj} {room:Nat} {z:AV} {w0:World}
  (hs:s.run P w=.ok (cv (λx=>if x=h.nx then(w.heap.size,room)else m x) z) w0)
  (eZ:w0.heap=w.heap.push ob_) (tF:w0.os=w.os) (fT:w0.tape=w.tape) (fm:w0.output=w.output)
  (hb:cr D b) (lH:cK P m b (w.heap.size,room) w0) (hz:bm (λx=>x=h.nx∨D x) z) (fG:∀t,b≠.cJ t:=by intro t hh;cases hh) :
  dj P m D h w ((do pure (Next.value (← s)):Sem Next).run P w) z (h.new b):=by
 obtain⟨e,r'⟩:=R.new b ob_ room eZ tF fT fm hb lH fG;exact⟨_,_,w0,.inl (by rw[qV hs];rfl),e,r',hz⟩
theorem gT (t:TypeId) (cs:Array Value):(newRow t cs).run P w=.ok ⟨w.heap.size,0,none⟩ { w with heap:=w.heap.push (.cells cs t) }:=rfl
theorem MN {ct:CT} {cs:List AV} {t:TypeId} (sC:ct.toList=cs) (w0:World) (eZ:w0.heap=w.heap.push (.cells (aT m cs).toArray t)):cK P m (.cells ct t false) (w.heap.size,0) w0:=by refine⟨[],(0,0),?_,λ_=>rfl,λi _=>by simp,λh=>by cases h⟩;rw[eZ,sC];simp
theorem Ie (R:Rel P m D h w) {x z:AV} {t:TypeId} (hx:bm D x) (e:gF h t x fin=some (z,h')) :
  dj P m D h w ((do pure (Next.value (← (do pure (.pointer (some (← newVar t (cv m x)))):Sem Value))):Sem Next).run P w) z h':=by
 unfold gF at e;simp only[qs,qM]at e;obtain⟨_,rfl,rfl⟩:=e;refine UO R (w0:={ w with heap:=w.heap.push (.cells (aT m x.cells).toArray t) }) (room:=0) ?_ rfl rfl rfl rfl (by simp only[cr,CT.aG];exact gu hx) (MN (CT.aG _) _ rfl) (.inl rfl);unfold newVar;rw[gZ,qV (gT t _)];simp[cv]
theorem qV8 {t:TypeId} (ho:o.op=.alloc t) (R:Rel P m D h w) (e:aX P c o.op r h fin=some (v,h')):dj P m D h w ((execOp ρ o).run P w) v h':=by
 rw[ho]at e;simp only[aX,qg]at e;obtain⟨z,hz,e⟩:=e;obtain⟨z1,z2⟩:=xP (w:=w) (m:=m) (D:=D) hz;have:=Ie R z2 e;simp only[execOp,ho];have e2:(Instr.alloc t true (.tuple #[])).run P w=(do pure (.pointer (some (← newVar t (cv m z)))):Sem Value).run P w:=by unfold Instr.alloc;rw[qV z1]
 have e3:(do pure (Next.value (← Instr.alloc t true (.tuple #[]))):Sem Next).run P w=(do pure (Next.value (← (do pure (.pointer (some (← newVar t (cv m z)))):Sem Value))):Sem Next).run P w:=by show(Sem.bind _ _).run P w=(Sem.bind _ _).run P w;rw[Y7,Y7,e2]
 rw[e3];exact this
theorem qvf {t:TypeId} {x:Operand} (ho:o.op=.box t x) (hr:dr m D ρ r) (R:Rel P m D h w) (e:aX P c o.op r h fin=some (v,h')):dj P m D h w ((execOp ρ o).run P w) v h':=by rw[ho]at e;simp only[aX,qg]at e;obtain⟨a,ha,e⟩:=e;obtain⟨a1,a2⟩:=hr _ _ ha;have:=Ie R a2 e;simp only[execOp,ho,a1];exact this
theorem gG {cl:Call} {b:Builtin} (ho:o.op=.call cl) (hc:cl.callee=.builtin b) :
  ∃cs,(execOp ρ o).run P w=(builtin b cl.argTypes o.type cs (cl.args.map ρ)).run P w:=by
 refine⟨cl.args.map fun | .const _=>true |_=>false,?_⟩;simp only[execOp,ho];have h1:(resolve ρ cl o.type).run P w=.ok { target:=.builtin b cl.argTypes o.type (cl.args.map fun | .const _=>true |_=>false),args:=cl.args.map ρ } w:=by unfold resolve;rw[hc];rfl
 rw[qV h1];rfl
theorem yq {α:Type} {a:Array α} {l:List α} (h:a.toList=l):a=l.toArray:=by cases a;simp at h;subst h;rfl
theorem qvD {cl:Call} (ho:o.op=.call cl) (hc:cl.callee=.builtin .len) (hr:dr m D ρ r) (R:Rel P m D h w) (e:aX P c o.op r h fin=some (v,h')):dj P m D h w ((execOp ρ o).run P w) v h':=by
 obtain⟨cs,hx⟩:=gG (P:=P) (w:=w) (ρ:=ρ) ho hc;rw[ho]at e;simp only[aX,hc]at e
 split at e
 ·rename_i x xs t ts ha ht;simp only[qg]at e;obtain⟨a,oJ,d,hd,e⟩:=e;obtain⟨a1,a2⟩:=hr _ _ oJ;rw[hx,yq ha,yq ht]
  have cE:∀z,(∀u,P.underlying t=some u→(match u,cv m a with
    | .string,.string s=>(pure (goInt s.size):Sem Value)
    | .array n _,_=>pure (goInt n)
    | .pointer arr,_=>do
     let .array n _ ← underlying arr | stuck "len: pointer to array expected"
     pure (goInt n)
    | .slice _,.slice _ n _=>pure (goInt n)
    | .map _ _,.map none | .chan _ _,.chan none=>pure (goInt 0)
    | .map _ _,.map (some r)=>do
     let .map entries _ ← getObj r | stuck "len: map expected"
     pure (goInt entries.size)
    | .chan _ _,.chan (some r)=>do
     let .chan _ buf _ _ _ timer ← getObj r | stuck "len: channel expected"
     pure (goInt (if timer then 0 else buf.size))
    | _, _ => stuck "len: string, array, pointer to array, slice, map or channel expected").run P w = .ok z w) →
    (Builtin.len_ (t::ts).toArray o.type ((x::xs).toArray.map ρ)).run P w=.ok z w:=by
   intro z hz;unfold Builtin.len_;simp only[List.getElem?_toArray,List.getElem?_cons_zero,List.map_toArray,List.map_cons,a1];rw[qV (Ae.run_underlying hd)];exact hz d hd
  have mr:∀n:Nat,v=.int .i64 (.ofNat n)→h=h'→(Builtin.len_ (t::ts).toArray o.type ((x::xs).toArray.map ρ)).run P w=.ok (goInt n) w→
    dj P m D h w ((builtin .len (t::ts).toArray o.type cs ((x::xs).toArray.map ρ)).run P w) v h':=by
   rintro n rfl rfl hl;exact ja R hl trivial
  cases d<;>simp only[reduceCtorEq]at e
  case string=>
   unfold Q8 at e
   split at e
   ·rename_i q;simp only[qM]at e;obtain⟨rfl,rfl⟩:=e;refine mr _ rfl rfl (cE _ λu hu=>?_);rw[hd]at hu;cases hu;simp only[cv];show Result.ok (goInt (ByteArray.mk q.toArray).size) w=_;simp[ByteArray.size]
   ·cases e
  case array n el=>simp only[qM]at e;obtain⟨rfl,rfl⟩:=e;refine mr _ rfl rfl (cE _ λu hu=>?_);rw[hd]at hu;cases hu;rfl
  case slice el=>
   unfold JJ at e
   split at e
   ·simp only[qM]at e;obtain⟨rfl,rfl⟩:=e;refine mr _ rfl rfl (cE _ λu hu=>?_);rw[hd]at hu;cases hu;rfl
   ·simp only[qM]at e;obtain⟨rfl,rfl⟩:=e;refine mr 0 rfl rfl (cE _ λu hu=>?_);rw[hd]at hu;cases hu;rfl
   ·simp only[qM]at e;obtain⟨rfl,rfl⟩:=e;refine mr 0 rfl rfl (cE _ λu hu=>?_);rw[hd]at hu;cases hu;rfl
   ·simp only[qM]at e;obtain⟨rfl,rfl⟩:=e;refine mr 0 rfl rfl (cE _ λu hu=>?_);rw[hd]at hu;cases hu;rfl
   ·cases e
  case map kt et=>
   unfold Uc at e
   split at e
   ·rename_i b
    split at e
    ·rename_i l q hg;simp only[qM]at e;obtain⟨rfl,rfl⟩:=e;obtain⟨x',fo,lH,_⟩:=R.br b a2;rw[hg]at fo;cases fo;have bx:w.heap[(m b).1]? =some (.map (l.map zN).toArray q):=lH;refine mr l.length rfl rfl (cE _ λu hu=>?_);rw[hd]at hu;cases hu;simp only[cv];rw[qV (show(getObj (m b).1).run P w=.ok (.map (l.map zN).toArray q) w by simp only[getObj,Sem.run,bx])];show Result.ok (goInt ((l.map zN).toArray.size:Nat)) w=_;simp
    ·cases e
   ·cases e
 ·cases e
theorem qzs {mx:Bool} {a b z:AV} (e:Ax mx a b=some z):((match mx with |true=>Builtin.max2 |false=>Builtin.min2) (cv m a) (cv m b)).run P w=.ok (cv m z) w∧UZ z=true:=by
 unfold Ax at e
 split at e
 ·rename_i k x k' y;rw[qs]at e;obtain⟨hk,e⟩:=e;have hk:k=k':=by simpa using hk
  subst hk;simp only[Option.some.injEq]at e;subst e;cases mx
  ·simp only[cond_false,Kb,cv];refine⟨?_,rfl⟩;simp only[Builtin.min2,vY];by_cases hh:y<x<;>simp[hh]
  ·simp only[cond_true,Kb,cv];refine⟨?_,rfl⟩;simp only[Builtin.max2,vY];by_cases hh:y>x
   ·have:x<y:=hh;simp[hh]
   ·have:¬x<y:=hh;simp[hh]
 ·cases e
theorem qjp {mx:Bool} {l:List AV} {a z:AV} (ha:UZ a=true) (e:tu mx a l=some z) :
  ((aT m l).foldlM (match mx with |true=>Builtin.max2 |false=>Builtin.min2) (cv m a)).run P w=.ok (cv m z) w∧UZ z=true:=by
 induction l generalizing a with
 |nil=>simp[tu]at e;subst e;exact⟨rfl,ha⟩
 |cons b l ih=>simp only[tu,Option.bind_eq_some_iff]at e;obtain⟨y,hy,e⟩:=e;obtain⟨y1,y2⟩:=qzs (P:=P) (m:=m) (w:=w) hy;obtain⟨z1,z2⟩:=ih y2 e;refine⟨?_,z2⟩;simp only[aT,List.foldlM_cons];rw[qV y1];exact z1
theorem Ig {cl:Call} {mx:Bool} (ho:o.op=.call cl) (hc:cl.callee=.builtin (match mx with |true=>.max |false=>.min)) (hr:dr m D ρ r) (R:Rel P m D h w) (e:aX P c o.op r h fin=some (v,h')):dj P m D h w ((execOp ρ o).run P w) v h':=by
 obtain⟨cs,hx⟩:=gG (P:=P) (w:=w) (ρ:=ρ) ho hc;rw[ho]at e;have e':(ob (gY r cl.args.toList) λl=>nt mx l λz=>fin z h)=some (v,h'):=by
  cases mx<;>simpa only[aX,hc]using e
 simp only[qg]at e';obtain⟨l,hl,e⟩:=e';obtain⟨l1,l2⟩:=kC hr hl;unfold nt at e
 split at e
 ·rename_i a q;simp only[qs,qg,qM]at e;obtain⟨hi,z,hz,rfl,rfl⟩:=e;obtain⟨z1,z2⟩:=qjp (P:=P) (m:=m) (w:=w) hi hz;have hv:bm D z:=by cases z<;>simp[UZ]at z2;trivial
  rw[hx];have fV:(cl.args.map ρ).toList=cv m a::aT m q:=by rw[Array.toList_map,l1];rfl
  cases mx
  ·refine ja R (s:=Builtin.min_ cl.argTypes o.type (cl.args.map ρ)) ?_ hv;unfold Builtin.min_;rw[fV];exact z1
  ·refine ja R (s:=Builtin.max_ cl.argTypes o.type (cl.args.map ρ)) ?_ hv;unfold Builtin.max_;rw[fV];exact z1
 ·cases e
end Go.Ae
namespace Go.Ae
open Go
variable {P:Program} {m:Mp} {D:Nat→Prop} {h h':AH} {w:World} {c:CV} {ρ:Operand→Value} {r:Operand→Option AV} {o:Oper} {v:AV}
theorem Yu {x:AV} {y n:Nat} {code:BoundsCode} (e:Mt x y=some n):(Instr.sliceBound (cv m x) y code).run P w=.ok n w∧n≤y:=by
 unfold Mt at e
 split at e
 ·rename_i k q;rw[qs]at e;obtain⟨hq,e⟩:=e;have hq:=jf hq;simp only[Option.some.injEq]at e;subst e;refine⟨?_,hq⟩;unfold Instr.sliceBound;simp only[cv];rw[qV (show(asIntOf (.int k (.ofNat q))).run P w=.ok (k,.ofNat q) w from rfl)];have:(0:Int)≤Int.ofNat q∧Int.ofNat q≤(y:Int):=⟨Int.natCast_nonneg q,by show(q:Int)≤y;omega⟩;simp only[iJ this];rfl
 ·cases e
theorem Qo {isS:Bool} {len cap u l:Nat} {lo hi:Option AV} (hu:yP hi cap len=some u) (hl:yP lo u 0=some l) :
  (Instr.sliceBounds isS len cap (lo.map (cv m)) (hi.map (cv m)) none).run P w=.ok (l,u,cap) w∧(hi=none∨u≤cap)∧(l≤u)∧(hi=none→u=len):=by
 unfold Instr.sliceBounds;have h1:((pure cap:Sem Nat)).run P w=.ok cap w:=rfl;rw[qV h1];cases hi with
 |none=>
  simp only[yP,Option.some.injEq]at hu;subst hu;simp only[Option.map_none];rw[qV (show(pure len:Sem Nat).run P w=.ok len w from rfl)];cases lo with
  |none=>simp only[yP,Option.some.injEq]at hl;subst hl;simp only[Option.map_none];rw[qV (show(pure 0:Sem Nat).run P w=.ok 0 w from rfl)];exact⟨rfl,.inl (by trivial),Nat.zero_le _,λ_=>by trivial⟩
  |some x=>obtain⟨h2,h3⟩:=Yu (P:=P) (m:=m) (w:=w) (code:=.sliceB) hl;simp only[Option.map_some,Option.isSome_none,Bool.false_eq_true,if_false];rw[qV h2];exact⟨rfl,.inl (by trivial),h3,λ_=>by trivial⟩
 |some y=>
  simp only[Option.map_some];obtain⟨h4,h5⟩:=Yu (P:=P) (m:=m) (w:=w) (code:=if isS then .sliceAcap else .sliceAlen) hu;rw[qV h4];cases lo with
  |none=>simp only[yP,Option.some.injEq]at hl;subst hl;simp only[Option.map_none];rw[qV (show(pure 0:Sem Nat).run P w=.ok 0 w from rfl)];exact⟨rfl,.inr h5,Nat.zero_le _,λhh=>by cases hh⟩
  |some x=>obtain⟨h2,h3⟩:=Yu (P:=P) (m:=m) (w:=w) (code:=.sliceB) hl;simp only[Option.map_some,Option.isSome_none,Bool.false_eq_true,if_false];rw[qV h2];exact⟨rfl,.inr h5,h3,λhh=>by cases hh⟩
theorem Ih (hr:dr m D ρ r) {x:Option Operand} {y:Option AV} (e:Xi r x=some y):x.map ρ=y.map (cv m):=by
 cases x with
 |none=>simp[Xi]at e;subst e;rfl
 |some x=>simp only[Xi,Option.map_eq_some_iff]at e;obtain⟨a,ha,rfl⟩:=e;simp[(hr _ _ ha).1]
theorem qWm {t:TypeId} {x:Operand} {lo hi mx:Option Operand} (ho:o.op=.slice t x lo hi mx) (hr:dr m D ρ r) (R:Rel P m D h w) (e:aX P c o.op r h fin=some (v,h')):dj P m D h w ((execOp ρ o).run P w) v h':=by
 rw[ho]at e;cases mx<;>simp only[aX,reduceCtorEq]at e
 simp only[qg]at e;obtain⟨a,ha,Df,dt,l9,iN,d,hd,e⟩:=e;obtain⟨a1,a2⟩:=hr _ _ ha;simp only[execOp,ho,a1,Ih hr dt,Ih hr iN,Option.map_none];cases d<;>simp only[reduceCtorEq]at e
 case string=>
  unfold vp at e
  split at e
  ·rename_i s;simp only[qg,qM]at e;obtain⟨u,hu,l,hl,t',ht,rfl,rfl⟩:=e;obtain⟨b1,_,b2,_⟩:=Qo (P:=P) (m:=m) (w:=w) (isS:=false) hu hl;refine ja R ?_ trivial;unfold Instr.sliceAt;rw[qV (Ae.run_underlying hd)];simp only[];unfold Instr.slice;rw[qV (Ae.run_underlying hd)];simp only[cv,Option.isSome_none,Bool.false_eq_true,if_false];have hs:(ByteArray.mk s.toArray).size=s.length:=by simp[ByteArray.size]
   rw[hs];rw[qV b1];simp only[vY]
   congr 2
   rw[wF]at ht;obtain⟨t1,t2⟩:=wQ ht;subst t1;apply ByteArray.ext;rw[ByteArray.data_extract];simp[List.extract_eq_take_drop]
  ·cases e
 case slice el=>
  simp only[qg]at e;obtain⟨sz,bw,e⟩:=e;have main:∀(A:Option Addr) (len cap u l:Nat) (z:AV),cv m a=.slice A len cap→yP l9 cap len=some u→yP Df u 0=some l→bm D z→
    cv m z=.slice (if cap=l then A else A.map (·.add (l*sz))) (u-l) (cap-l)→dj P m D h w ((do pure (Next.value (← Instr.sliceAt t (cv m a) (Df.map (cv m)) (l9.map (cv m)) none)):Sem Next).run P w) z h:=by
   intro A len cap u l z hca hu hl hz hcz;obtain⟨b1,_,b2,_⟩:=Qo (P:=P) (m:=m) (w:=w) (isS:=true) (len:=len) hu hl;refine ja R ?_ hz;unfold Instr.sliceAt;rw[qV (Ae.run_underlying hd)];simp only[];unfold Instr.slice;rw[qV (Ae.run_underlying hd)];simp only[hca];rw[qV b1];simp only[];rw[qV (Ae.run_sizeOf bw),hcz];rfl
  unfold yQ at e
  split at e
  ·rename_i b off len cap;simp only[qg,qM]at e;obtain⟨u,hu,l,hl,rfl,rfl⟩:=e;refine main _ len cap u l _ rfl hu hl a2 ?_;simp only[cv];cases eD:Nat.beq cap l
   ·have:=yb eD;simp only[cond_false,iQ this,Option.map_some,gi]
   ·have:=jd eD;simp only[cond_true,iJ this]
  ·rename_i b off len i0;simp only[qs,qg]at e;obtain⟨hf,u,hu,l,hl,e⟩:=e;unfold yL at hf
   split at hf
   ·rename_i cs el' hg;simp only[Bool.and_eq_true]at hf;obtain⟨f0,f1,f2,f3⟩:=hf;have f0:=jd f0;have f1:=jf f1;have f2:=jd f2;have f3:=jf f3;subst f0;obtain⟨rest,fr,h1,h2,h3,h4,h5⟩:=R.cells a2 hg;obtain⟨h4a,h4b⟩:=h4 rfl sz bw;rw[CT.dp]at f3;have AP:i0+len≤(m b).2:=by
     have:(i0+len)*sz≤(m b).2*sz:=by rw[Nat.add_mul];omega
     exact Nat.le_of_mul_le_mul_right this f1
    have uV:yP l9 ((m b).2-i0) len=some u:=by
     cases l9 with
     |none=>exact hu
     |some y=>
      simp only[yP,Mt]at hu ⊢
      split at hu
      ·rename_i k q;rw[qs]at hu ⊢;exact⟨iY (by have:=jf hu.1;omega),hu.2⟩
      ·cases hu
    have hule:u≤len:=by
     cases l9 with
     |none=>simp only[yP,Option.some.injEq]at hu;omega
     |some y=>
      simp only[yP,Mt]at hu
      split at hu
      ·rw[qs]at hu;have:=jf hu.1;simp only[Option.some.injEq]at hu;omega
      ·cases hu
    cases lI:Nat.beq l 0
    ·have AQ:=yb lI;rw[lI]at e;simp only[cond_false]at e;cases rh:Nat.ble (l+1) len
     ·rw[rh]at e;simp only[cond_false,qM]at e;obtain⟨rfl,rfl⟩:=e;have rh:¬l+1≤len:=λh=>by rw[iY h]at rh;cases rh
      obtain⟨_,_,q1,_⟩:=Qo (P:=P) (m:=m) (w:=w) (isS:=true) (len:=len) uV hl;refine main _ len _ u l _ rfl uV hl a2 ?_;simp only[cv];have e1:u-l=0:=by omega
      rw[e1];by_cases hc:(m b).2=i0+l
      ·rw[iJ hc,iJ omQ]
       congr 1
       omega
      ·rw[iQ hc,iQ omQ];simp only[Option.map_some,gi]
       congr 1
       omega
     rw[rh]at e;simp only[cond_true,qM]at e;obtain⟨rfl,rfl⟩:=e;have rh:=jf rh;refine main _ len _ u l _ rfl uV hl a2 ?_;simp only[cv];rw[iQ omQ];simp only[Option.map_some,gi]
     congr 1
     omega
    ·have AQ:=jd lI;subst AQ;rw[lI]at e;simp only[cond_true,qM]at e;obtain⟨rfl,rfl⟩:=e;refine main _ len _ u 0 _ rfl uV hl a2 ?_;simp only[cv];simp[Addr.add]
   ·cases hf
  ·simp only[qg,qM]at e;obtain⟨u,hu,l,hl,rfl,rfl⟩:=e;have Ek:u=0:=by
    cases l9 with
    |none=>simp only[yP,Option.some.injEq]at hu;omega
    |some y=>
     simp only[yP,Mt]at hu
     split at hu
     ·rw[qs]at hu;have:=jf hu.1;simp only[Option.some.injEq]at hu;omega
     ·cases hu
   subst Ek;have lI:l=0:=by
    cases Df with
    |none=>simp only[yP,Option.some.injEq]at hl;omega
    |some y=>
     simp only[yP,Mt]at hl
     split at hl
     ·rw[qs]at hl;have:=jf hl.1;simp only[Option.some.injEq]at hl;omega
     ·cases hl
   subst lI;refine main none 0 0 0 0 .ak rfl hu hl trivial ?_;simp[cv]
  ·simp only[qg,qM]at e;obtain⟨u,hu,l,hl,rfl,rfl⟩:=e;have Ek:u=0:=by
    cases l9 with
    |none=>simp only[yP,Option.some.injEq]at hu;omega
    |some y=>
     simp only[yP,Mt]at hu
     split at hu
     ·rw[qs]at hu;have:=jf hu.1;simp only[Option.some.injEq]at hu;omega
     ·cases hu
   subst Ek;have lI:l=0:=by
    cases Df with
    |none=>simp only[yP,Option.some.injEq]at hl;omega
    |some y=>
     simp only[yP,Mt]at hl
     split at hl
     ·rw[qs]at hl;have:=jf hl.1;simp only[Option.some.injEq]at hl;omega
     ·cases hl
   subst lI;refine main _ 0 0 0 0 (.bU _) rfl hu hl trivial ?_;simp[cv]
  ·cases e
 case array n el=>
  simp only[qg]at e;obtain⟨sz,bw,e⟩:=e;unfold gD at e
  split at e
  ·rename_i b off;simp only[qg,qM]at e;obtain⟨u,hu,l,hl,rfl,rfl⟩:=e;obtain⟨b1,_,b2,_⟩:=Qo (P:=P) (m:=m) (w:=w) (isS:=false) (len:=n) hu hl;refine ja R ?_ a2;unfold Instr.sliceAt;rw[qV (Ae.run_underlying hd)];simp only[cv];rw[qV (show(Instr.sureAddr (.pointer (some ⟨(m b).1,off,none⟩))).run P w=.ok ⟨(m b).1,off,none⟩ w from rfl)];rw[qV b1];simp only[];rw[qV (Ae.run_sizeOf bw)];cases eD:Nat.beq n l
   ·have:=yb eD;simp only[cond_false,iQ this,gi];rfl
   ·have:=jd eD;simp only[cond_true,iJ this];rfl
  ·cases e
end Go.Ae
namespace Go.Ae
open Go
variable {P:Program} {m:Mp} {D:Nat→Prop} {h h':AH} {w:World} {c:CV} {ρ:Operand→Value} {r:Operand→Option AV} {o:Oper} {v:AV}
theorem qXe:∀(vs:List Value) (C:List Value) (off i:Nat),off+i+vs.length≤C.length→
  (vs.zipIdx i).foldl (λcs (p:Value×Nat)=>cs.setIfInBounds (off+p.2) p.1) C.toArray=(C.take (off+i)++vs++C.drop (off+i+vs.length)).toArray:=by
 intro vs
 induction vs with
 |nil=>intro C off i h;simp
 |cons v vs ih=>
  intro C off i h;simp only[List.length_cons]at h;simp only[List.zipIdx_cons,List.foldl_cons];have e0:C.toArray.setIfInBounds (off+i) v=(C.set (off+i) v).toArray:=by simp
  rw[e0,ih _ off (i+1) (by simp;omega)]
  congr 1
  have e1:(C.set (off+i) v).take (off+(i+1))=C.take (off+i)++[v]:=by rw[show off+(i+1)=(off+i)+1 from by omega,List.take_succ_eq_append_getElem (by simp;omega)];simp[List.take_set_of_le]
  have e2:(C.set (off+i) v).drop (off+(i+1)+vs.length)=C.drop (off+i+(v::vs).length):=by
   rw[List.drop_set_of_lt omQ]
   congr 1
   simp;omega
  rw[e1,e2];simp
theorem Ud (hr:dr m D ρ r) {pl:Nat→Option (Nat×Nat)} {l:List (Nat×Operand)} {vs:List (Nat×Nat×AV)} (e:xi pl r l=some vs) :
  ∀{z cs:List AV},xT z vs=some cs→aY D z→Instr.fill pl (aT m z).toArray (l.map λp=>(p.1,ρ p.2))=some (aT m cs).toArray∧aY D cs:=by
 induction l generalizing vs with
 |nil=>intro z cs e2 hz;simp[xi]at e;subst e;simp[xT]at e2;subst e2;exact⟨rfl,hz⟩
 |cons p l ih=>
  obtain⟨i,x⟩:=p;intro z cs e2 hz;simp only[xi,Option.bind_eq_some_iff,Option.map_eq_some_iff]at e;obtain⟨q,hq,a,ha,s,hs,rfl⟩:=e;obtain⟨a1,a2⟩:=hr _ _ ha;simp only[xT,qs,Option.bind_eq_some_iff]at e2;obtain⟨hl,z',hz',e2⟩:=e2;have hl:=jd hl;obtain⟨e3,e4⟩:=GE hz';have ri:aY D z':=by rw[e3];exact yp.2 ⟨yp.2 ⟨QI _ hz,gu a2⟩,XJ _ hz⟩
  obtain⟨f1,f2⟩:=ih hs e2 ri;refine⟨?_,f2⟩;simp only[List.map_cons,Instr.fill,hq];have bw:(ρ x).cells.size=q.2:=by rw[a1,gZ];simpa using hl
  have dx:(decide ((ρ x).cells.size≠q.2)||decide (q.1+(ρ x).cells.size>(aT m z).toArray.size))=false:=by rw[bw];simp only[Bool.or_eq_false_iff,decide_eq_false_iff_not,List.size_toArray,dN];exact⟨λhh=>hh rfl,by omega⟩
  simp only[dx,Bool.false_eq_true,if_false];rw[← f1]
  congr 1
  rw[a1,gZ,← Array.foldl_toList];have:=qXe (aT m a.cells) (aT m z) q.1 0 (by simp;omega);rw[Array.toList_zipIdx];show List.foldl (λcs (p:Value×Nat)=>cs.setIfInBounds (q.1+p.2) p.1) (aT m z).toArray ((aT m a.cells).zipIdx 0)=_;rw[this,e3];simp[zC]
theorem ZE {fs:List Field} {pl:List (Nat×Nat)} (e:wC P fs=some pl):(fs.mapM λf=>(do pure (f.offset,← sizeOf f.type):Sem (Nat×Nat))).run P w=.ok pl w:=by
 induction fs generalizing pl with
 |nil=>simp[wC,gY]at e;subst e;rfl
 |cons f fs ih=>simp only[wC,gY,Option.bind_eq_some_iff,Option.map_eq_some_iff]at e;obtain⟨q,⟨n,hn,rfl⟩,t,ht,he⟩:=e;cases he;rw[List.mapM_cons];rw[qV (show(do pure (f.offset,← sizeOf f.type):Sem (Nat×Nat)).run P w=.ok (f.offset,n) w from by rw[qV (Ae.run_sizeOf hn)];rfl)];rw[qV (ih ht)];rfl
theorem qQd {fs:Array Field} {pl:List (Nat×Nat)} (e:wC P fs.toList=some pl):(fs.mapM λf=>(do pure (f.offset,← sizeOf f.type):Sem (Nat×Nat))).run P w=.ok pl.toArray w:=by rw[Array.mapM_eq_mapM_toList];show((fs.toList.mapM λf=>(do pure (f.offset,← sizeOf f.type):Sem (Nat×Nat)))>>=λl=>pure l.toArray).run P w=_;rw[qV (ZE e)];rfl
theorem qGS {t:TypeId} {parts:Array (Nat×Operand)} (ho:o.op=.build t parts) (hr:dr m D ρ r) (R:Rel P m D h w) (e:aX P c o.op r h fin=some (v,h')):dj P m D h w ((execOp ρ o).run P w) v h':=by
 rw[ho]at e;simp only[aX,qg]at e;obtain⟨z,hz,d,hd,e⟩:=e;obtain⟨z1,z2⟩:=xP (w:=w) (m:=m) (D:=D) hz;simp only[execOp,ho];cases d<;>simp only[reduceCtorEq]at e
 case struct fs=>
  simp only[qg]at e;obtain⟨pl,nD,vs,nE,e⟩:=e;unfold vJ at e;simp only[qg,qM]at e;obtain⟨cs,ma,rfl,rfl⟩:=e;have Dh:=qQd (w:=w) nD;have tG:xi (pl.toArray[·]?) r parts.toList=some vs:=by
   have:(λi=>pl.toArray[i]?)=λi=>wx pl i:=by funext i;rw[xh];simp
   rw[this];exact nE
  obtain⟨f1,f2⟩:=Ud hr tG ma (gu z2);refine ja R ?_ f2;unfold Instr.build;rw[qV z1];rw[qV (Ae.run_underlying hd)];simp only[];rw[qV Dh,gZ];have eV:(parts.map λ(p:Nat×Operand)=>(p.1,ρ p.2)).toList=parts.toList.map λp=>(p.1,ρ p.2):=by simp
  rw[eV,f1];rfl
 case array n el=>
  simp only[qg]at e;obtain⟨sz,bw,vs,nE,e⟩:=e;unfold vJ at e;simp only[qg,qM]at e;obtain⟨cs,ma,rfl,rfl⟩:=e;obtain⟨f1,f2⟩:=Ud hr nE ma (gu z2);refine ja R ?_ f2;unfold Instr.build;rw[qV z1];rw[qV (Ae.run_underlying hd)];simp only[];rw[qV (Ae.run_sizeOf bw),gZ];have eV:(parts.map λ(p:Nat×Operand)=>(p.1,ρ p.2)).toList=parts.toList.map λp=>(p.1,ρ p.2):=by simp
  rw[eV,f1];rfl
theorem Jx {t:TypeId} {z:List AV} (e:GW P t=some z):∃i za,P.info? t=some i∧dH P t=some za∧z=za.cells∧z.length=i.size∧ql z=true∧i.bytes≤65536∧aM P t=some z.length:=by unfold GW at e;simp only[Option.bind_eq_some_iff,qs,Bool.and_eq_true,Option.some.injEq]at e;obtain⟨i,hi,za,hz,⟨h1,h2,h3⟩,rfl⟩:=e;have h1:=jd h1;exact⟨i,za,hi,hz,rfl,h1,h2,jf h3,by unfold aM;rw[hi,h1];rfl⟩
theorem wD {α:Type} (l:List α) (n:Nat):(yI l n).length=n*l.length:=by
 induction n with
 |zero=>simp[yI]
 |succ n ih=>simp[yI,ih,Nat.succ_mul];omega
theorem V3 {l:List AV} (hl:aY D l) (n:Nat):aY D (yI l n):=by
 induction n with
 |zero=>trivial
 |succ n ih=>exact yp.2 ⟨hl,ih⟩
theorem qWP {α:Type} [Inhabited α] (l:List α) (n i:Nat) (hi:i<n*l.length):(yI l n)[i]? =some (l.toArray[i%l.toArray.size]!):=by
 induction n generalizing i with
 |zero=>simp at hi
 |succ n ih=>
  have El:0<l.length:=by
   rcases Nat.eq_zero_or_pos l.length with h |h
   ·rw[h]at hi;simp at hi
   ·exact h
  simp only[yI];by_cases ap:i<l.length
  ·rw[List.getElem?_append_left ap];simp only[List.size_toArray];rw[Nat.mod_eq_of_lt ap];simp[ap]
  ·rw[List.getElem?_append_right omQ,ih (i-l.length) (by rw[Nat.succ_mul]at hi;omega)]
   congr 2
   simp only[List.size_toArray]
   conv=>rhs;rw[show i=(i-l.length)+l.length from by omega,Nat.add_mod_right]
theorem OW (z:List AV) (n:Nat) (m:Mp):((Array.range (n*z.length)).map λi=>(aT m z).toArray[i%(aT m z).toArray.size]!)=(aT m (yI z n)).toArray:=by
 apply Array.ext
 ·simp[wD]
 ·intro i h1 h2;have hi:i<n*z.length:=by simpa using h1
  have hg:=qWP (aT m z) n i (by simpa using hi);have hr:yI (aT m z) n=aT m (yI z n):=by
   clear hg h1 h2 hi
   induction n with
   |zero=>rfl
   |succ n ih=>simp[yI,ih,Jr]
  rw[hr]at hg;simp only[Array.getElem_map,Array.getElem_range,List.getElem_toArray];have:=List.getElem?_eq_some_iff.1 hg;obtain⟨_,hh⟩:=this;exact hh.symm
theorem Ii {α:Type} (f:Nat→α):(Array.range 0).map f= #[]:=by simp
theorem qKF {t:TypeId} {len:Nat} {parts:Array (Nat×Operand)} (ho:o.op=.buildSlice t len parts) (hr:dr m D ρ r) (R:Rel P m D h w) (e:aX P c o.op r h fin=some (v,h')):dj P m D h w ((execOp ρ o).run P w) v h':=by
 rw[ho]at e;simp only[aX,qg]at e;obtain⟨d,hd,e⟩:=e;cases d<;>simp only[reduceCtorEq]at e
 rename_i el;simp only[qg,jO]at e;obtain⟨z,hz,hlen,vs,nE,e⟩:=e;have hlen:=jf hlen;obtain⟨i,za,hi,tH,rfl,sD,nC,uW,bw⟩:=Jx hz;unfold yC at e;simp only[qg,qs,qM]at e;obtain⟨cs,ma,Ij,rfl,rfl⟩:=e;obtain⟨z1,z2⟩:=xP (w:=w) (m:=m) (D:=D) tH;obtain⟨f1,f2⟩:=Ud hr nE ma (V3 (gu z2) len);simp only[execOp,ho];refine UO R (w0:={ w with heap:=w.heap.push (.cells (aT m cs).toArray el) }) (room:=0) ?_ rfl rfl rfl rfl (by simp only[cr,CT.aG];exact f2) (MN (CT.aG _) _ rfl) (.inl rfl);unfold Instr.buildSlice;rw[qV (Ae.run_underlying hd)];simp only[];rw[qV (Ae.run_sizeOf bw)];have dx:¬(len*za.cells.length>2 ^ 24):=by omega
 simp only[dx,if_false];have eV:(parts.map λ(p:Nat×Operand)=>(p.1,ρ p.2)).toList=parts.toList.map λp=>(p.1,ρ p.2):=by simp
 have zs:=OW za.cells len m;have z0:(aT m za.cells).toArray.size=za.cells.length:=by simp
 have last:∀cells,Instr.fill (λi=>some (i*za.cells.length,za.cells.length)) cells (parts.map λ(x:Nat×Operand)=>(x.1,ρ x.2)).toList=some (aT m cs).toArray→
   (match Instr.fill (λi=>some (i*za.cells.length,za.cells.length)) cells (parts.map λ(x:Nat×Operand)=>(x.1,ρ x.2)).toList with
    |some cells=>(do
      let a ← newRow el cells
      pure (Value.slice (some a) len len):Sem Value)
    | _ => stuck "buildSlice: a part of the wrong size").run P w = .ok (cv (fun x => if x = h.nx then (w.heap.size, 0) else m x) (.slice h.nx 0 len len false)) { w with heap := w.heap.push (.cells (aT m cs).toArray el) } := by
  intro cells hh;rw[hh];simp only[];rw[qV (gT el _)];simp[cv]
 split
 ·rename_i h0;rw[qV (show(pure #[]:Sem (Array Value)).run P w=.ok #[] w from rfl)];apply last;rw[eV,h0];have:yI za.cells len=[]:=iA (by rw[wD,h0]);rw[this]at f1;rw[Ii];exact f1
 ·rw[qV z1,gZ];rw[qV (show(pure (aT m za.cells).toArray:Sem (Array Value)).run P w=.ok _ w from rfl)];apply last;rw[eV,zs];exact f1
theorem Za {n:Nat} (h:n≤1073741824):IntKind.i64.wrap (Int.ofNat n)=Int.ofNat n:=by rw[Yl];show(if(9223372036854775808:Int)≤(n:Int)%18446744073709551616 then _ else(n:Int)%18446744073709551616)=(n:Int);rw[iQ omQ];omega
theorem GP (n:Nat):(askRoom n).run P w=.ok () w:=by
 unfold askRoom
 split<;>rfl
theorem qx8 {t:TypeId} {x y:Operand} (ho:o.op=.makeSlice t x y) (hr:dr m D ρ r) (R:Rel P m D h w) (e:aX P c o.op r h fin=some (v,h')):dj P m D h w ((execOp ρ o).run P w) v h':=by
 rw[ho]at e;simp only[aX,qg]at e;obtain⟨d,hd,e⟩:=e;cases d<;>simp only[reduceCtorEq]at e
 rename_i el;simp only[qg]at e;obtain⟨z,hz,a,ha,b,hb,e⟩:=e;obtain⟨a1,a2⟩:=hr _ _ ha;obtain⟨b1,b2⟩:=hr _ _ hb;obtain⟨i,za,hi,tH,rfl,sD,nC,uW,bw⟩:=Jx hz;unfold kr at e
 split at e
 ·rename_i k1 ln k2 cp;simp only[qs,qM,Bool.and_eq_true]at e;obtain⟨⟨h1,h2⟩,rfl,rfl⟩:=e;have h1:=jf h1;have h2:=jf h2;obtain⟨z1,z2⟩:=xP (w:=w) (m:=m) (D:=D) tH;simp only[execOp,ho,a1,b1];refine UO R (w0:={ w with heap:=w.heap.push (.cells (aT m (yI za.cells cp)).toArray el) }) (room:=0) ?_ rfl rfl rfl rfl (by simp only[cr,CT.mn];exact V3 (gu z2) cp) (MN (CT.mn _ _) _ rfl) (.inl rfl);unfold Instr.makeSlice;rw[qV (Ae.run_underlying hd)];simp only[cv];rw[qV (show(asInt (.int k1 (.ofNat ln))).run P w=.ok (.ofNat ln) w from rfl)];rw[qV (show(asInt (.int k2 (.ofNat cp))).run P w=.ok (.ofNat cp) w from rfl)];rw[qV (Ae.run_typeInfo hi)];simp only[Za (show ln≤1073741824 by omega),Za h2];have fw:i.bytes*cp≤65536*1073741824:=Nat.mul_le_mul uW h2;have lJ:(decide (Int.ofNat cp<0)||decide ((i.bytes:Int)*Int.ofNat cp>2 ^ 48)||decide (Int.ofNat ln<0)||decide (Int.ofNat ln>Int.ofNat cp))=false:=by
   have e1:((i.bytes:Int)*Int.ofNat cp)=((i.bytes*cp:Nat):Int):=by simp
   simp only[Bool.or_eq_false_iff,decide_eq_false_iff_not,e1];refine⟨⟨⟨?_,by omega⟩,?_⟩,?_⟩
   ·show¬((cp:Int)<0);omega
   ·show¬((ln:Int)<0);omega
   ·show¬((ln:Int)>(cp:Int));omega
  simp only[lJ,Bool.false_eq_true,if_false];rw[qV (GP _)];rw[qV (Ae.run_sizeOf bw)];simp only[show(Int.ofNat cp).toNat=cp from rfl,show(Int.ofNat ln).toNat=ln from rfl];have zs:=OW za.cells cp m
  split
  ·rename_i h0;rw[qV (show(pure #[]:Sem (Array Value)).run P w=.ok #[] w from rfl)];have:yI za.cells cp=[]:=iA (by rw[wD,h0]);rw[h0,this,Ii];rw[qV (gT el _)];simp;rfl
  ·rw[qV z1,gZ];rw[qV (show(pure (aT m za.cells).toArray:Sem (Array Value)).run P w=.ok _ w from rfl)];rw[zs,qV (gT el _)];simp
 ·cases e
end Go.Ae
namespace Go.Ae
open Go
variable {P:Program} {m:Mp} {D:Nat→Prop} {h h':AH} {w:World} {c:CV} {ρ:Operand→Value} {r:Operand→Option AV} {o:Oper} {v:AV}
theorem VU {x:AV} {n:Nat} (e:Qz x=some n):(Builtin.lenOf (cv m x)).run P w=.ok n w:=by
 cases x<;>simp only[Qz,reduceCtorEq,Option.some.injEq]at e<;>subst e
 ·simp only[cv,Builtin.lenOf];show Result.ok (ByteArray.mk _).size w=_;simp[ByteArray.size]
 ·rfl
 ·rfl
 ·rfl
 ·rfl
theorem Ja (R:Rel P m D h w) {x:AV} {sz n:Nat} {l:List AV} (hx:bm D x) (e:wm h sz n x=some l) :
  (Builtin.firstCells sz n (cv m x)).run P w=.ok (aT m l).toArray w∧aY D l:=by
 cases x<;>simp only[wm,reduceCtorEq]at e
 case str s=>
  simp only[Option.map_eq_some_iff]at e;obtain⟨t,ht,rfl⟩:=e;obtain⟨t1,t2⟩:=wQ ht;refine⟨?_,?_⟩
  ·simp only[cv,Builtin.firstCells,vY]
   congr 1
   subst t1;rw[ByteArray.data_extract];simp[zC,List.extract_eq_take_drop];rfl
  ·rw[xJ];intro v hv;rw[List.mem_map]at hv;obtain⟨b,_,rfl⟩:=hv;trivial
 case slice b off len cp bg=>obtain⟨h1,h2,_⟩:=R.read hx e;exact⟨h1,h2⟩
 case ak=>simp only[Option.some.injEq]at e;subst e;exact⟨rfl,trivial⟩
 case bU a=>simp only[qs,Option.some.injEq]at e;obtain⟨e1,rfl⟩:=e;have e1:=jd e1;subst e1;refine⟨?_,trivial⟩;simp only[cv,Builtin.firstCells,Nat.zero_mul];simp[loadCells,loadCellsFrom,aT]
 case tail b o o' i1=>simp only[qs,Option.some.injEq]at e;obtain⟨e1,rfl⟩:=e;have e1:=jd e1;subst e1;refine⟨?_,trivial⟩;simp only[cv,Builtin.firstCells,Nat.zero_mul];simp[loadCells,loadCellsFrom,aT]
def Ik (h:AH) (sz n:Nat) (x:AV) (l:List AV):Prop :=
 wm h sz n x=some l∨∃b off len cap bg c t o,x=.slice b off len cap bg∧h.get b=some (.cells c t o)∧yD (n*sz) (yi off c.toList)=some l
theorem qY5 {h:AH} {sz n:Nat} {x:AV} {nc:CT} (e:UT h sz n x=some nc):Ik h sz n x nc.toList:=by
 cases x<;>simp only[UT,reduceCtorEq]at e
 case slice b off len cap bg=>
  split at e
  ·rename_i c t o hg;exact .inr ⟨b,off,len,cap,bg,c,t,o,rfl,hg,CT.tE e⟩
  ·rename_i t hg;simp only[Option.bind_eq_some_iff]at e;obtain⟨l,hl,e⟩:=e;cases e;refine .inl ?_;simp only[wm,yJ,hg,hl,CT.aG]
  ·cases e
 case ak=>cases e;exact .inl rfl
 case bU a=>rw[qs]at e;obtain⟨e1,e⟩:=e;cases e;refine .inl ?_;simp only[wm,e1,cond_true];rfl
 case tail b o o' i1=>rw[qs]at e;obtain⟨e1,e⟩:=e;cases e;refine .inl ?_;simp only[wm,e1,cond_true];rfl
 case str s=>simp only[Option.bind_eq_some_iff]at e;obtain⟨l,hl,e⟩:=e;cases e;refine .inl ?_;simp only[wm,hl,Option.map_some,CT.aG]
theorem qXF (mw:Nat):∀(rounds c:Nat),c≤2*mw+1000→Builtin.growBy mw rounds c≤2*mw+1000:=by
 intro rounds
 induction rounds with
 |zero=>intro c h;exact h
 |succ n ih=>
  intro c h;unfold Builtin.growBy
  split
  ·exact h
  ·apply ih;omega
theorem qjU {aC cap:Nat} (h:cap<aC):Builtin.nextslicecap aC cap≤2*aC+1000:=by
 unfold Builtin.nextslicecap
 split
 ·omega
 ·split
  ·omega
  ·exact qXF aC 4 cap omQ
theorem qQL {t u:TypeId} {ts:List TypeId} {ty:TypeId} {e:TypeId} {du:TypeDesc} {i:TypeInfo} {za:AV} {s x:Value} {base:Option Addr} {cY eE n:Nat} {new:Array Value}
  (ht:P.underlying t=some (.slice e)) (hu:P.underlying u=some du) (Em:∀k,du≠.int k) (hi:P.info? e=some i) (tH:dH P e=some za) (hz:za.cells.length=i.size) (hb:i.bytes≤65536)
  (hs:s=.slice base cY eE) (hlen:(Builtin.lenOf x).run P w=.ok n w) (oK:∀W:World,W.heap=w.heap→(Builtin.firstCells i.size n x).run P W=.ok new W) :
  (cY+n≤eE→(Builtin.append_ (t::u::ts).toArray ty [s,x].toArray).run P w=
   (do (match(generalizing:=false) base with |some a=>storeCells (a.add (cY*i.size)) new.toList |none=>pure ());pure (.slice base (cY+n) eE):Sem Value).run P w)∧
  (¬cY+n≤eE→cY+n≤67108864→∀cS:Array Value,(∀W:World,W.heap=w.heap→(Builtin.firstCells i.size cY s).run P W=.ok cS W)→
   ∃(cap:Nat) (rest:Array Value),cY+n≤cap∧rest.size=(cap-(cY+n))*i.size∧
    (Builtin.append_ (t::u::ts).toArray ty [s,x].toArray).run P w=.ok (.slice (some ⟨w.heap.size,0,none⟩) (cY+n) cap) { w with drawn:=w.drawn+1,heap:=w.heap.push (.cells (cS++new++rest) e) }):=by
 subst hs;have bw:aM P e=some i.size:=by unfold aM;rw[hi];rfl
 unfold Builtin.append_;simp only[List.getElem?_toArray,List.getElem?_cons_zero,List.getElem?_cons_succ];rw[qV (Ae.run_underlying ht)];simp only[];rw[qV (Ae.run_sizeOf bw)];rw[qV (Ae.run_underlying hu)];cases du<;>first |(exact absurd rfl (Em _)) |skip
 all_goals
  rw[qV (show(pure _:Sem Bool).run P w=.ok false w from rfl)];simp only[Bool.false_eq_true,if_false,Bool.not_false,if_true];rw[qV hlen];constructor
  ·intro hle;simp only[iJ hle];rw[qV (oK w rfl)];cases base<;>rfl
  ·intro En Eo cS hold;simp only[iQ En];rw[qV (Ae.run_typeInfo hi)];have h1:¬(((cY+n:Nat):Int)>IntKind.i64.max∧(False∨i.bytes=0)):=by
    rintro⟨hh,_⟩;have:((cY+n:Nat):Int)>9223372036854775807:=hh;omega
   simp only[iQ h1];rw[qV (Ae.run_typeInfo hi)];have h2:¬(Builtin.nextslicecap (cY+n) eE*i.bytes>2 ^ 48):=by have a1:=qjU (show eE<cY+n by omega);have a2:Builtin.nextslicecap (cY+n) eE*i.bytes≤134219728*65536:=Nat.mul_le_mul omQ hb;omega
   simp only[iQ h2];refine⟨(Question.appendCap (cY+n) eE e).cut (w.tape w.drawn (.appendCap (cY+n) eE e)),(Builtin.zeroCells (aT (λ_=>(0,0)) za.cells).toArray ((Question.appendCap (cY+n) eE e).cut (w.tape w.drawn (.appendCap (cY+n) eE e))-(cY+n))),?_,?_,?_⟩
   ·simp only[Question.cut];omega
   ·simp[Builtin.zeroCells,hz]
   ·rw[qV (show(choose (.appendCap (cY+n) eE e)).run P w=.ok _ { w with drawn:=w.drawn+1 }from rfl)];rw[qV (Ae.run_typeInfo hi)];rw[qV (GP _)];rw[qV (hold { w with drawn:=w.drawn+1 } rfl)];rw[qV (oK { w with drawn:=w.drawn+1 } rfl)];rw[qV (xP (m:=λ_=>(0,0)) (D:=λ_=>True) tH).1];rw[qV (gT e _),gZ];rfl
theorem Rel.kill (r:Rel P m D h w) (b:Nat) (hb:D b):Ext m D h w m D (h.put b .dead) w∧Rel P m D (h.put b .dead) w:=by
 refine Ext.rel r ?_;have cD:∀b',b'≠b→(h.put b .dead).get b'=h.get b':=λb' hn=>AH.bn h .dead (λe=>hn e.symm);have bM:∀b',live (h.put b .dead) b'→live h b':=λb' hl=>by
  by_cases e:b'=b
  ·subst e;obtain⟨x,hx,rj⟩:=hl;rw[AH.aS]at hx;cases hx;exact rj.elim
  ·unfold live at*;rw[cD b' e]at hl;exact hl
 refine⟨⟨λ_ h=>h,λ_ _=>rfl,Nat.le_refl _,?_,Nat.le_refl _,?_,rfl,rfl,rfl,λb=>⟨.inl,λhb=>hb.elim id λhb=>by simp at hb;omega⟩,?_⟩,⟨?_,?_,?_,?_⟩⟩
 ·intro c hc hn;refine⟨rfl,?_⟩;rintro⟨b',bA,dQ,he⟩;exact hn ⟨b',bA,bM b' dQ,he⟩
 ·intro b' bA hn;exact⟨cD b' (λe=>hn (e▸hb)),hn⟩
 ·intro b' t bA hg;by_cases e:b'=b
  ·subst e;rw[AH.aS]at hg;cases hg
  ·exact⟨bA,by rw[← cD b' e];exact hg⟩
 ·intro b' bA;by_cases e:b'=b
  ·subst e;exact⟨.dead,AH.aS h b' _,trivial,trivial⟩
  ·obtain⟨y,hy,fH,eU⟩:=r.br b' bA;exact⟨y,(cD b' e).trans hy,fH,eU⟩
 ·intro b1 b2 h1 h2 l1 l2 he;exact r.inj b1 b2 h1 h2 (bM b1 l1) (bM b2 l2) he
 ·intro b' bA;exact r.lt b' bA
 ·rintro b' t bA hg ⟨b2,dS,lF,he⟩;by_cases e:b'=b
  ·subst e;rw[AH.aS]at hg;cases hg
  ·rw[cD b' e]at hg;exact r.cJ b' t bA hg ⟨b2,dS,bM b2 lF,he⟩
theorem Rel.AR {w0:World} (r:Rel P m D h w) (b:Nat) (x:cG) (hb:D b) (nB:live h b)
  (AI:w0.heap.size=w.heap.size) (dY:∀c,c≠(m b).1→w0.heap[c]? =w.heap[c]?) (tF:w0.os=w.os) (fT:w0.tape=w.tape) (fm:w0.output=w.output)
  (hx:cr D x) (lE:cK P m x (m b) w0) (fG:∀t,x≠.cJ t:=by intro t hh;cases hh) :
  let m':Mp:=λb'=>if b'=h.nx then m b else m b'
  let D':Nat→Prop:=λb'=>b'=h.nx∨D b'
  Ext m D h w m' D' ((h.put b .dead).new x) w0∧Rel P m' D' ((h.put b .dead).new x) w0:=by
 intro m' D';refine Ext.rel r ?_;have Ep:b≠h.nx:=by have:=r.lt b hb;omega
 have hm:∀b',D b'→m' b'=m b':=λb' bA=>by
  have:=r.lt b' bA;simp only[m'];rw[iQ omQ]
 have fz:m' h.nx=m b:=by simp[m']
 have cD:∀b',D b'→b'≠b→((h.put b .dead).new x).get b'=h.get b':=λb' bA hn=>by
  rw[AH.bG _ x (show(h.put b .dead).nx≠b' by have:=r.lt b' bA;simp;omega),AH.bn h .dead (λe=>hn e.symm)]
 have mP:((h.put b .dead).new x).get b=some .dead:=by rw[AH.bG _ x (show(h.put b .dead).nx≠b by simp;omega),AH.aS]
 have AS:¬live ((h.put b .dead).new x) b:=by rintro⟨y,hy,fS⟩;rw[mP]at hy;cases hy;exact fS
 have bM:∀b',D b'→live ((h.put b .dead).new x) b'→live h b'∧b'≠b:=λb' bA hl=>by
  have hn:b'≠b:=λe=>AS (e▸hl);refine⟨?_,hn⟩;unfold live at*;rw[cD b' bA hn]at hl;exact hl
 refine⟨⟨λb' h=>.inr h,hm,by omega,?_,Nat.le_succ _,?_,tF,fT,fm,λb'=>(show b'=h.nx∨D b'↔D b'∨(h.nx≤b'∧b'<h.nx+1)from⟨λhh=>hh.elim (λe=>.inr omQ) .inl,λhh=>hh.elim .inr λe=>.inl omQ⟩),?_⟩,⟨?_,?_,?_,?_⟩⟩
 ·intro c hc hn;have Il:c≠(m b).1:=λe=>hn ⟨b,hb,nB,e.symm⟩;refine⟨dY c Il,?_⟩;rintro⟨b',bA,dQ,he⟩;rcases bA with rfl |bA
  ·rw[fz]at he;exact Il he.symm
  ·rw[hm b' bA]at he;exact hn ⟨b',bA,(bM b' bA dQ).1,he⟩
 ·intro b' bA hn;have cx:b'≠b:=λe=>hn (e▸hb);refine⟨?_,?_⟩
  ·rw[AH.bG _ x (show(h.put b .dead).nx≠b' by simp;omega),AH.bn h .dead (λe=>cx e.symm)]
  ·rintro(rfl |hd)
   ·omega
   ·exact hn hd
 ·intro b' t bA hg;rcases bA with rfl |bA
  ·have oe:((h.put b .dead).new x).get h.nx=some x:=AH.bp (h.put b .dead) x;rw[oe]at hg;cases hg;exact absurd rfl (fG t)
  ·by_cases e:b'=b
   ·subst e;rw[mP]at hg;cases hg
   ·exact⟨bA,by rw[← cD b' bA e];exact hg⟩
 ·intro b' bA;rcases bA with rfl |bA
  ·refine⟨x,AH.bp (h.put b .dead) x,?_,hx.mono λb hb=>.inr hb⟩;rw[fz];exact lE.congr hm hx rfl
  ·by_cases e:b'=b
   ·subst e;exact⟨.dead,mP,trivial,trivial⟩
   ·obtain⟨y,hy,fH,eU⟩:=r.br b' bA;refine⟨y,(cD b' bA e).trans hy,?_,eU.mono λb hb=>.inr hb⟩;rw[hm b' bA];cases y with
    |dead=>trivial
    |cJ t=>exact fH.congr hm eU (dY _ λee=>r.cJ b' t bA hy ⟨b,hb,nB,ee.symm⟩)
    |_=>exact fH.congr hm eU (dY _ λee=>e (r.inj b' b bA hb ⟨_,hy,by exact True.intro⟩ nB ee))
 ·intro b1 b2 h1 h2 l1 l2 he;rcases h1 with rfl |h1<;>rcases h2 with rfl |h2
  ·rfl
  ·exfalso;obtain⟨q1,q2⟩:=bM b2 h2 l2;rw[fz,hm b2 h2]at he;exact q2 (r.inj b b2 hb h2 nB q1 he).symm
  ·exfalso;obtain⟨q1,q2⟩:=bM b1 h1 l1;rw[fz,hm b1 h1]at he;exact q2 (r.inj b1 b h1 hb q1 nB he)
  ·rw[hm b1 h1,hm b2 h2]at he;exact r.inj b1 b2 h1 h2 (bM b1 h1 l1).1 (bM b2 h2 l2).1 he
 ·intro b' bA;rcases bA with rfl |bA
  ·simp
  ·have:=r.lt b' bA;simp;omega
 ·rintro b1 t h1 hg ⟨b2,h2,l2,he⟩;rcases h1 with rfl |h1
  ·have oe:((h.put b .dead).new x).get h.nx=some x:=AH.bp (h.put b .dead) x;rw[oe]at hg;cases hg;rcases h2 with rfl |h2
   ·obtain⟨y,hy,fS⟩:=l2;rw[oe]at hy;cases hy;exact fS
   ·obtain⟨q1,q2⟩:=bM b2 h2 l2;rw[fz,hm b2 h2]at he;exact q2 (r.inj b2 b h2 hb q1 nB he)
  ·by_cases e:b1=b
   ·subst e;rw[mP]at hg;cases hg
   ·rw[cD b1 h1 e]at hg;rw[hm b1 h1]at he;rcases h2 with rfl |h2
    ·rw[fz]at he;exact r.cJ b1 t h1 hg ⟨b,hb,nB,he⟩
    ·rw[hm b2 h2]at he;exact r.cJ b1 t h1 hg ⟨b2,h2,(bM b2 h2 l2).1,he⟩
theorem Rel.heap {W:World} (R:Rel P m D h w) (hW:W.heap=w.heap):Rel P m D h W :=
 ⟨⟨λb hb=>by
  obtain⟨x,hx,hr,hd⟩:=R.br b hb
  exact⟨x,hx,hr.congr (λ_ _=>rfl) hd (by rw[hW]),hd⟩,R.inj,R.lt,R.cJ⟩,λp hp=>by
  obtain⟨g,h1,h2,h3⟩:=R.gl p hp
  exact⟨g,h1,(Xb h1 h2).2 (by rw[hW]),h3⟩⟩
theorem Er {ct:CT} {cs:List AV} (sC:ct.toList=cs) {t:TypeId} {w0:World} {cap n:Nat} {rest:Array Value} (bw:aM P t=some n) (hc:cs.length≤cap*n) (hr:rest.size=cap*n-cs.length)
  (eZ:w0.heap=w.heap.push (.cells ((aT m cs).toArray++rest) t)):cK P m (.cells ct t true) (w.heap.size,cap) w0:=by
 subst sC;refine⟨rest.toList,(0,0),?_,(λhh=>by cases hh),(λi _=>by simp),λ_ k hk=>?_⟩
 ·rw[eZ];simp
 ·rw[bw]at hk;cases hk;refine⟨hc,?_⟩;show cap*n≤ct.toList.length+rest.toList.length;have AT:rest.toList.length=rest.size:=Array.length_toList;omega
theorem Ku (R:Rel P m D h w) {x:AV} {sz n:Nat} {l:List AV} (hx:bm D x) (e:Ik h sz n x l):(Builtin.firstCells sz n (cv m x)).run P w=.ok (aT m l).toArray w∧aY D l:=by
 rcases e with e |⟨b,off,len,cap,bg,c,t,o,rfl,hg,e⟩
 ·exact Ja R hx e
 ·obtain⟨h1,h2,_⟩:=R.oE hx hg e;exact⟨h1,h2⟩
theorem qKc {cl:Call} (ho:o.op=.call cl) (hc:cl.callee=.builtin .append) (hr:dr m D ρ r) (R:Rel P m D h w) (e:aX P c o.op r h fin=some (v,h')):dj P m D h w ((execOp ρ o).run P w) v h':=by
 obtain⟨cs,hx⟩:=gG (P:=P) (w:=w) (ρ:=ρ) ho hc;rw[ho]at e;simp only[aX,hc]at e
 split at e
 ·rename_i s x t u ts ha dv;simp only[qg]at e;obtain⟨du,Em,e⟩:=e;have fG:(∀k,du≠.int k)∧∃el z vs vx,P.underlying t=some (.slice el)∧GW P el=some z∧r s=some vs∧r x=some vx∧vB h el z.length vs vx fin=some (v,h'):=by
   split at e
   ·cases e
   ·rename_i hn;simp only[qg]at e;obtain⟨d,hd,e⟩:=e;cases d<;>simp only[reduceCtorEq]at e
    rename_i el;simp only[qg]at e;obtain⟨z,hz,vs,nE,vx,rK,e⟩:=e;exact⟨λk hk=>hn k hk,el,z,vs,vx,hd,hz,nE,rK,e⟩
  obtain⟨fG,el,z,vs,vx,ht,hz,nE,rK,e⟩:=fG;obtain⟨s1,s2⟩:=hr _ _ nE;obtain⟨x1,x2⟩:=hr _ _ rK;obtain⟨i,za,hi,tH,rfl,sD,nC,uW,bw⟩:=Jx hz;rw[sD]at bw e;unfold vB at e;simp only[qg,qs]at e;obtain⟨n,hn,nc,hnc,oL,e⟩:=e;have oL:=jd oL;rw[CT.dp]at oL;have fz:=qY5 hnc;obtain⟨new,dx⟩:∃new,nc.toList=new:=⟨_,rfl⟩;rw[dx]at oL fz;have hnd:aY D new:=(Ku R x2 fz).2;rw[hx,yq ha,yq dv];simp only[List.map_toArray,List.map_cons,List.map_nil,s1,x1];have fN:=λ(base:Option Addr) (cY eE:Nat) (hb:cv m vs=.slice base cY eE)=>qQL (w:=w) (ty:=o.type) (ts:=ts) ht Em fG hi tH sD uW hb (VU hn) (λW hW=>(Ku (R.heap hW) x2 fz).1)
  have done:∀{z:Value} {w0:World},(Builtin.append_ (t::u::ts).toArray o.type [cv m vs,cv m vx].toArray).run P w=.ok z w0→
    (builtin .append (t::u::ts).toArray o.type cs [cv m vs,cv m vx].toArray).run P w=.ok (.value z) w0:=by
   intro z w0 hh;show(do pure (Next.value (← Builtin.append_ (t::u::ts).toArray o.type [cv m vs,cv m vx].toArray)):Sem Next).run P w=_;rw[qV hh];rfl
  have store:∀(b off len fW:Nat) (bg:Bool) (rm:Nat) (h1:AH),vs=.slice b off len rm bg→cv m vs=.slice (some ⟨(m b).1,off,none⟩) len fW→len+n≤fW→vA h b (off+len*i.size) new=some h1→
    dj P m D h w ((builtin .append (t::u::ts).toArray o.type cs [cv m vs,cv m vx].toArray).run P w) (.slice b off (len+n) rm bg) h1:=by
   intro b off len fW bg rm h1 tG iO hle hw;obtain⟨a1,_⟩:=fN _ _ _ iO;subst tG;obtain⟨w',cE,oG,dZ⟩:=R.write s2 hnd hw;refine⟨m,D,w',.inl (done ?_),oG,dZ,s2⟩;rw[a1 hle];simp only[];rw[gi,qV cE];simp only[cv,Value.slice.injEq]at iO ⊢;obtain⟨_,_,rfl⟩:=iO;rfl
  have sE:∀(b off len fW:Nat),cv m vs=.slice (some ⟨(m b).1,off,none⟩) len fW→n=0→len≤fW→
    dj P m D h w ((builtin .append (t::u::ts).toArray o.type cs [cv m vs,cv m vx].toArray).run P w) vs h:=by
   intro b off len fW iO lr hle;obtain⟨a1,_⟩:=fN _ _ _ iO;subst lr;have:new=[]:=iA omQ;subst this;refine⟨m,D,w,.inl (done ?_),Ext.refl ..,R,s2⟩;rw[a1 omQ,iO];rfl
  have grow:∀(b off len fW:Nat) (cS:List AV),cv m vs=.slice (some ⟨(m b).1,off,none⟩) len fW→D b→¬len+n≤fW→len+n≤67108864→(yJ h b off (len*i.size)=some cS∨∃c t o,h.get b=some (.cells c t o)∧yD (len*i.size) (yi off c.toList)=some cS)→
    ∃cap rest w0,(Builtin.append_ (t::u::ts).toArray o.type [cv m vs,cv m vx].toArray).run P w=.ok (.slice (some ⟨w.heap.size,0,none⟩) (len+n) cap) w0∧
     w0.heap=w.heap.push (.cells ((aT m (cS++new)).toArray++rest) el)∧w0.os=w.os∧w0.tape=w.tape∧w0.output=w.output∧(cS++new).length≤cap*i.size∧rest.size=cap*i.size-(cS++new).length∧aY D (cS++new):=by
   intro b off len fW cS iO hb hle oM hold;obtain⟨_,a2⟩:=fN _ _ _ iO;have rd:∀{W:World},Rel P m D h W→(loadCells ⟨(m b).1,off,none⟩ (len*i.size)).run P W=.ok (aT m cS).toArray W∧aY D cS∧cS.length=len*i.size:=by
    intro W RW;rcases hold with hold |⟨c,t,o,hg,hold⟩
    ·exact RW.read hb hold
    ·exact RW.oE hb hg hold
   obtain⟨o1,o2,o3⟩:=rd R;obtain⟨cap,rest,c1,c2,c3⟩:=a2 hle oM (aT m cS).toArray (λW hW=>by rw[iO];exact(rd (R.heap hW)).1);have hl:(cS++new).length=(len+n)*i.size:=by rw[List.length_append,o3,oL,Nat.add_mul]
   refine⟨cap,rest,_,c3,?_,rfl,rfl,rfl,?_,?_,yp.2 ⟨o2,hnd⟩⟩
   ·simp[Jr]
   ·rw[hl];exact Nat.mul_le_mul_right _ c1
   ·rw[hl,c2,Nat.sub_mul]
  unfold yO at e;simp only[dx]at e
  split at e
  ·--nil
   obtain⟨a1,a2⟩:=fN none 0 0 rfl;cases lr:Nat.beq n 0
   ·have my:=yb lr;rw[lr]at e;simp only[cond_false,qs,qM]at e;obtain⟨oM,rfl,rfl⟩:=e;have oM:=jf oM;obtain⟨cap,rest,c1,c2,c3⟩:=a2 omQ omQ #[] (λW hW=>by simp[Builtin.firstCells];rfl);have e9:rest.size=cap*i.size-new.length:=by rw[c2,oL,Nat.zero_add,Nat.sub_mul]
    have AU:new.length≤cap*i.size:=by rw[oL];exact Nat.mul_le_mul_right _ omQ
    obtain⟨ex,re⟩:=R.new (.cells nc el true) _ cap (w0:={ w with drawn:=w.drawn+1,heap:=w.heap.push (.cells (#[]++(aT m new).toArray++rest) el) }) rfl rfl rfl rfl (by simp only[cr,dx];exact hnd)
     (Er dx bw AU e9 aN)
    refine⟨_,_,_,.inl (done ?_),ex,re,.inl rfl⟩;rw[c3];simp[cv]
   ·have my:=jd lr;subst my;rw[lr]at e;simp only[cond_true,qM]at e;obtain⟨rfl,rfl⟩:=e;refine⟨m,D,w,.inl (done ?_),Ext.refl ..,R,trivial⟩;rw[a1 omQ];rfl
  ·rename_i b off len cap;cases hle:Nat.ble (len+n) cap
   ·have AW:=Xu hle;rw[hle]at e;simp only[cond_false,qs,qg]at e;obtain⟨oM,cS,hold,e⟩:=e;have oM:=jf oM;simp only[qM]at e;obtain⟨rfl,rfl⟩:=e;obtain⟨c',rest,w0,g1,g2,g3,g4,g5,g6,g7,g8⟩:=grow b off len cap cS rfl s2 omQ oM (.inl hold);have oN:(bif Nat.beq len 0 then nc else CT.ofList (cS++new)).toList=cS++new:=by
     cases lI:Nat.beq len 0
     ·exact CT.aG _
     ·have h0:=jd lI;have ho:cS=[]:=iA (by have:=(R.read s2 hold).2.2;rw[h0,Nat.zero_mul]at this;exact this);rw[ho];exact dx
    obtain⟨ex,re⟩:=R.new (.cells (bif Nat.beq len 0 then nc else CT.ofList (cS++new)) el true) _ c' g2 g3 g4 g5 (by simp only[cr,oN];exact g8) (Er oN bw g6 g7 g2);refine⟨_,_,_,.inl (done ?_),ex,re,.inl rfl⟩;rw[g1];simp[cv]
   ·have AW:=jf hle;rw[hle]at e;simp only[cond_true]at e;cases lr:Nat.beq n 0
    ·rw[lr]at e;simp only[cond_false,qg,qM]at e;obtain⟨h1,hw,rfl,rfl⟩:=e;exact store b off len cap false cap h1 rfl rfl AW hw
    ·have my:=jd lr;rw[lr]at e;simp only[cond_true,qM]at e;obtain⟨rfl,rfl⟩:=e;exact sE b off len cap rfl my omQ
  ·rename_i b off len i0
   split at e
   ·rename_i cells e' hg;simp only[qs,Bool.and_eq_true]at e;obtain⟨⟨f1,f2,f3,f4⟩,e⟩:=e;have f1:=jf f1;have f2:=jd f2;have f3:=jd f3;have f4:=jf f4;rw[CT.dp]at f4;subst f3;obtain⟨rest,fr,k1,k2,k3,k4,k5⟩:=R.cells s2 hg;obtain⟨k4a,k4b⟩:=k4 rfl _ bw;have AP:i0+len≤(m b).2:=by
     have:(i0+len)*i.size≤(m b).2*i.size:=by rw[Nat.add_mul];omega
     exact Nat.le_of_mul_le_mul_right this f1
    cases lr:Nat.beq n 0
    ·have my:=yb lr;rw[lr]at e;simp only[cond_false]at e;cases dl:Nat.ble (off+(len+n)*i.size) cells.len
     ·have tI:=Xu dl;rw[CT.dp]at tI;rw[dl]at e;simp only[cond_false,qs,qg,Bool.and_eq_true,qM]at e;obtain⟨⟨g0,gs,AY⟩,oO,AZ,rfl,rfl⟩:=e;have hold:=CT.mo AZ;obtain⟨cS,Im⟩:∃cS,oO.toList=cS:=⟨_,rfl⟩;rw[Im]at hold;have fA:(oO.fN new).toList=cS++new:=by rw[CT.oC,Im]
      have g0:=jd g0;have gs:=jf gs;subst g0;simp only[Nat.zero_mul]at f2;subst f2;by_cases hle:len+n≤(m b).2
      ·--it grows where it lies
       have hlr:(len+n)*i.size≤(m b).2*i.size:=Nat.mul_le_mul_right _ hle;have hln:(len+n)*i.size=len*i.size+n*i.size:=Nat.add_mul ..;obtain⟨w',q1,q2⟩:=Jk (P:=P) (0+len*i.size) (aT m new) 0 w _ k1 (by simp;omega) (Oj m AY) (by simpa using k3);obtain⟨a1,_⟩:=fN _ _ _ rfl;have A0:cS=cells.toList.take (len*i.size)∧len*i.size≤cells.toList.length:=wQ hold;obtain⟨o1,o2⟩:=A0;have fB:cS.length=len*i.size:=by rw[o1,List.length_take];omega
       have fo:cr D (.cells (oO.fN new) el true):=by simp only[cr,fA];rw[o1];exact yp.2 ⟨QI _ k5,hnd⟩
       obtain⟨ex,re⟩:=R.AR b (.cells (oO.fN new) el true) s2 (G0 hg trivial) q2.size q2.other q2.os q2.tape q2.output fo (by
        simp only[cK,fA];refine⟨(aT m cells.toList++rest).drop ((len+n)*i.size),fr,?_,(λhh=>by cases hh),?_,λ_ k hk=>?_⟩
        ·rw[q2.at_]
         congr 2
         have e1:(aT m cells.toList++rest).take (0+len*i.size+0)=aT m cS:=by rw[o1,zC,zC,List.take_append_of_le_length (by simp;omega)];simp[List.map_take]
         have e2:0+len*i.size+0+(aT m new).length=(len+n)*i.size:=by rw[dN,oL,hln];omega
         rw[e1,e2,Jr]
        ·intro j hj;apply k3 j;simp only[List.length_append,List.length_drop,dN,fB,oL]at hj;omega
        ·rw[bw]at hk;cases hk;constructor
         ·rw[List.length_append,fB,oL];show _≤(m b).2*i.size;omega
         ·show(m b).2*i.size≤(cS++new).length+((aT m cells.toList++rest).drop _).length;simp only[List.length_append,List.length_drop,dN,fB,oL]
          omega)
       refine⟨_,_,w',.inl (done ?_),ex,re,.inl rfl⟩;rw[a1 (by simpa using hle)];simp only[];rw[gi,qV q1];simp[cv]
      ·obtain⟨c',Io,w0,g1,g2,g3,g4,g5,g6,g7,g8⟩:=grow b 0 len ((m b).2-0) cS rfl s2 omQ gs (.inr ⟨_,_,_,hg,hold⟩);obtain⟨ex1,re1⟩:=R.kill b s2;obtain⟨ex,re⟩:=re1.new (.cells (oO.fN new) _ true) _ c' g2 g3 g4 g5 (by simp only[cr,fA];exact g8) (Er fA bw g6 g7 g2);refine⟨_,_,_,.inl (done ?_),ex1.trans ex,re,.inl rfl⟩;rw[g1];simp[cv]
     ·have tI:=jf dl;rw[CT.dp]at tI;rw[dl]at e;simp only[cond_true,qg,qM]at e;obtain⟨h1,hw,rfl,rfl⟩:=e;refine store b off len ((m b).2-i0) true i0 h1 rfl rfl ?_ hw;have:(i0+(len+n))*i.size≤(m b).2*i.size:=by rw[Nat.add_mul];omega
      have:=Nat.le_of_mul_le_mul_right this f1;omega
    ·have my:=jd lr;rw[lr]at e;simp only[cond_true,qM]at e;obtain⟨rfl,rfl⟩:=e;exact sE b off len ((m b).2-i0) rfl my omQ
   ·cases e
  ·cases e
 ·cases e
end Go.Ae
namespace Go.Ae
open Go
variable {P:Program} {m:Mp} {D:Nat→Prop} {h h':AH} {w:World} {c:CV} {ρ:Operand→Value} {r:Operand→Option AV} {o:Oper} {v:AV}
theorem qjO {cl:Call} (ho:o.op=.call cl) (hc:cl.callee=.builtin .copy) (hr:dr m D ρ r) (R:Rel P m D h w) (e:aX P c o.op r h fin=some (v,h')):dj P m D h w ((execOp ρ o).run P w) v h':=by
 obtain⟨cs,hx⟩:=gG (P:=P) (w:=w) (ρ:=ρ) ho hc;rw[ho]at e;simp only[aX,hc]at e
 split at e
 ·rename_i s x t ts ha dv;simp only[qg]at e;obtain⟨d,hd,e⟩:=e;cases d<;>simp only[reduceCtorEq]at e
  rename_i el;simp only[qg]at e;obtain⟨sz,bw,vs,nE,vx,rK,e⟩:=e;obtain⟨s1,s2⟩:=hr _ _ nE;obtain⟨x1,x2⟩:=hr _ _ rK;unfold Uz at e;simp only[qg]at e;obtain⟨n,hn,k,hk,l,hl,e⟩:=e;obtain⟨l1,l2⟩:=Ja R x2 hl;rw[hx,yq ha,yq dv];simp only[List.map_toArray,List.map_cons,List.map_nil,s1,x1];have done:∀{z:Value} {w0:World},(Builtin.copy_ (t::ts).toArray o.type [cv m vs,cv m vx].toArray).run P w=.ok z w0→
    (builtin .copy (t::ts).toArray o.type cs [cv m vs,cv m vx].toArray).run P w=.ok (.value z) w0:=by
   intro z w0 hh;show(do pure (Next.value (← Builtin.copy_ (t::ts).toArray o.type [cv m vs,cv m vx].toArray)):Sem Next).run P w=_;rw[qV hh];rfl
  have body:∀base A1,cv m vs=.slice base k A1→(Builtin.copy_ (t::ts).toArray o.type [cv m vs,cv m vx].toArray).run P w=
    (do (match(generalizing:=false) base with |some a=>storeCells a (aT m l) |none=>pure ());pure (goInt (Nat.min n k)):Sem Value).run P w:=by
   intro base A1 hb;unfold Builtin.copy_;simp only[List.getElem?_toArray,List.getElem?_cons_zero,List.getElem?_cons_succ];rw[qV (Ae.run_underlying hd)];simp only[hb];rw[qV (VU hn)];rw[qV (Ae.run_sizeOf bw)];rw[qV l1];cases base<;>rfl
  split at e
  ·rename_i b off len cp bg;simp only[Qz,Option.some.injEq]at hk;subst hk;cases h0:Nat.beq (Nat.min n len) 0
   ·rw[h0]at e;simp only[cond_false,qg,qM]at e;obtain⟨h1,hw,rfl,rfl⟩:=e;obtain⟨w',cE,oG,dZ⟩:=R.write s2 l2 hw;refine⟨m,D,w',.inl (done ?_),oG,dZ,trivial⟩;rw[body _ _ rfl];simp only[];rw[qV cE];rfl
   ·have Ip:=jd h0;rw[h0]at e;simp only[cond_true,qM]at e;obtain⟨rfl,rfl⟩:=e;refine⟨m,D,w,.inl (done ?_),Ext.refl ..,R,trivial⟩;rw[body _ _ rfl];have lI:l=[]:=by
     rw[Ip]at hl;cases vx<;>simp only[wm,reduceCtorEq]at hl
     ·simp[Nx]at hl;exact hl
     ·have:=(R.read x2 hl).2.2;exact iA (by simpa using this)
     ·simp at hl;exact hl
     ·rw[qs]at hl;exact(Option.some.inj hl.2).symm
     ·rw[qs]at hl;exact(Option.some.inj hl.2).symm
    subst lI;simp only[aT,Ip];rfl
  ·simp only[qM]at e;obtain⟨rfl,rfl⟩:=e;simp only[Qz,Option.some.injEq]at hk;subst hk;refine⟨m,D,w,.inl (done ?_),Ext.refl ..,R,trivial⟩;rw[body none 0 rfl];simp only[];show Result.ok (goInt ((Nat.min n 0:Nat):Int)) w=_;rw[show Nat.min n 0=0 from Nat.min_zero n];rfl
  ·cases e
 ·cases e
theorem Zh {l:List AV} {s:List UInt8} (e:wK l=some s):∃ns:List Int,aT m l=ns.map (Value.int .u8)∧∀acc:ByteArray,ns.foldl (λr n=>r.push (UInt8.ofNat n.toNat)) acc=⟨acc.data++s.toArray⟩:=by
 induction l generalizing s with
 |nil=>simp[wK]at e;subst e;exact⟨[],rfl,λacc=>by simp⟩
 |cons a l ih=>
  unfold wK at e
  split at e
  ·rename_i mc;cases mc
  ·rename_i n r mc;cases mc;simp only[Option.bind_eq_some_iff]at e;obtain⟨t,ht,e⟩:=e;cases e;obtain⟨ns,h1,h2⟩:=ih ht;refine⟨.ofNat n::ns,by simp[aT,cv,h1],λacc=>?_⟩;simp only[List.foldl_cons,h2];show ByteArray.mk ((acc.push (UInt8.ofNat n)).data++t.toArray)=_
   congr 1
   rw[ByteArray.data_push];apply Array.ext';simp
  ·cases e
theorem qv9 {ct:CT} {cs:List AV} (sC:ct.toList=cs) {t:TypeId} {w0:World} {cap n:Nat} {rest:Array Value} (bw:aM P t=some n) (hc:cs.length≤cap*n) (hr:rest.size=cap*n-cs.length)
  (eZ:w0.heap=w.heap.push (.cells ((aT m cs).toArray++rest) t (cs.length+rest.size,cs.length+rest.size+1))):cK P m (.cells ct t true) (w.heap.size,cap) w0:=by
 subst sC;have AT:rest.toList.length=rest.size:=Array.length_toList;refine⟨rest.toList,(ct.toList.length+rest.size,ct.toList.length+rest.size+1),?_,(λhh=>by cases hh),(λi hi=>by simp only;omega),λ_ k hk=>?_⟩
 ·rw[eZ];simp
 ·rw[bw]at hk;cases hk;refine⟨hc,?_⟩;show cap*n≤ct.toList.length+rest.toList.length;omega
theorem qxr {s d:TypeId} {x:Operand} (ho:o.op=.convert s d x) (hr:dr m D ρ r) (R:Rel P m D h w) (e:aX P c o.op r h fin=some (v,h')):dj P m D h w ((execOp ρ o).run P w) v h':=by
 rw[ho]at e;simp only[aX,qg]at e;obtain⟨a,ha,ds,A3,dd,A4,e⟩:=e;obtain⟨a1,a2⟩:=hr _ _ ha;simp only[execOp,ho,a1];cases dd<;>simp only[reduceCtorEq]at e
 case int k=>
  cases ds<;>simp only[reduceCtorEq]at e
  unfold vH at e
  split at e
  ·simp only[qM]at e;obtain⟨rfl,rfl⟩:=e;refine ja R ?_ trivial;unfold convert;rw[qV (Ae.run_underlying A3),qV (Ae.run_underlying A4)];simp only[cv,kA];rfl
  ·cases e
 case string=>
  cases ds<;>simp only[reduceCtorEq]at e
  case string=>
   unfold Xc at e
   split at e
   ·simp only[qM]at e;obtain⟨rfl,rfl⟩:=e;refine ja R ?_ trivial;unfold convert;rw[qV (Ae.run_underlying A3),qV (Ae.run_underlying A4)];simp only[cv];rfl
   ·cases e
  case slice el=>
   simp only[qg]at e;obtain⟨de,sF,e⟩:=e;have Es:de=.int .u8∧Xx h a (λz=>fin z h)=some (v,h'):=by
    split at e
    ·exact⟨rfl,e⟩
    ·cases e
   obtain⟨rfl,e2⟩:=Es;unfold Xx at e2
   split at e2
   ·simp only[qM]at e2;obtain⟨rfl,rfl⟩:=e2;refine ja R ?_ trivial;unfold convert;rw[qV (Ae.run_underlying A3),qV (Ae.run_underlying A4)];simp only[cv];rw[qV (Ae.run_underlying sF)];rfl
   ·rename_i b off len cp bg;simp only[qg,qM]at e2;obtain⟨cs,ma,q,hq,rfl,rfl⟩:=e2;obtain⟨r1,r2,r3⟩:=R.read a2 ma;obtain⟨ns,n1,n2⟩:=Zh (m:=m) hq;refine ja R ?_ trivial;obtain⟨cc,tJ⟩:∃cc,cv m (.slice b off len cp bg)=.slice (some ⟨(m b).1,off,none⟩) len cc:=⟨_,rfl⟩;rw[tJ];rw[run_convert_bytes_string w s d el _ _ _ A3 sF A4];rw[run_bytesToString w _ len _ ns (by rw[r1,n1]),n2];simp[cv]
   ·cases e2
 case slice el=>
  cases ds<;>simp only[reduceCtorEq]at e
  simp only[qg]at e;obtain⟨de,sF,e⟩:=e;have Es:de=.int .u8∧∃sz,aM P el=some sz∧Nat.beq sz 1=true∧Gn h el a fin=some (v,h'):=by
   split at e
   ·simp only[qg,jO]at e;obtain⟨sz,h1,h2,h3⟩:=e;exact⟨rfl,sz,h1,h2,h3⟩
   ·cases e
  obtain⟨rfl,sz,bw,oP,e2⟩:=Es;have oP:=jd oP;subst oP;unfold Gn at e2
  split at e2
  ·rename_i s';simp only[qs,qM]at e2;obtain⟨oM,rfl,rfl⟩:=e2;have oM:=jf oM;have uX:(ByteArray.mk s'.toArray).size=s'.length:=by simp[ByteArray.size]
   have ma:aT m (s'.map λ(c:UInt8)=>AV.int .u8 (.ofNat c.toNat))=s'.map λb=>Value.int .u8 b.toNat:=by rw[zC,List.map_map];rfl
   have hq:∃cap,s'.length≤cap∧(choose (.appendCap (ByteArray.mk s'.toArray).size 0 el)).run P w=.ok cap { w with drawn:=w.drawn+1 }:=by refine⟨(Question.appendCap (ByteArray.mk s'.toArray).size 0 el).cut (w.tape w.drawn (.appendCap (ByteArray.mk s'.toArray).size 0 el)),?_,rfl⟩;simp only[Question.cut,uX];omega
   obtain⟨cap,nF,hch⟩:=hq;have hlen:(s'.map λ(c:UInt8)=>AV.int .u8 (.ofNat c.toNat)).length=s'.length:=by simp
   generalize hC:((aT m (s'.map λ(c:UInt8)=>AV.int .u8 (.ofNat c.toNat))).toArray++Array.replicate (cap-s'.length) (Value.int .u8 0))=C;have hCs:C.size=cap:=by rw[← hC];simp;omega
   obtain⟨ex,re⟩:=R.new (.cells (CT.ofList (s'.map λ(c:UInt8)=>AV.int .u8 (.ofNat c.toNat))) el true) (.cells C el (C.size,C.size+1)) cap
    (w0:={ w with drawn:=w.drawn+1,heap:=w.heap.push (.cells C el (C.size,C.size+1)) }) rfl rfl rfl rfl
    (by simp only[cr,CT.aG];rw[xJ];intro x hx;rw[List.mem_map]at hx;obtain⟨y,_,rfl⟩:=hx;trivial)
    (qv9 (CT.aG _) (rest:=Array.replicate (cap-s'.length) (Value.int .u8 0)) bw (by rw[hlen];omega) aN (by
     rw[hC];have:(s'.map λ(c:UInt8)=>AV.int .u8 (.ofNat c.toNat)).length+(Array.replicate (cap-s'.length) (Value.int .u8 0)).size=C.size:=by rw[hlen,hCs];simp;omega
     rw[this]))
   refine⟨_,_,_,.inl ?_,ex,re,.inl rfl⟩;have conv:(convert s d (cv m (.str s'))).run P w=(Conv.stringToBytes el ⟨s'.toArray⟩).run P w:=by unfold convert;rw[qV (Ae.run_underlying A3),qV (Ae.run_underlying A4)];simp only[cv];rw[qV (Ae.run_underlying sF)]
   have s2b:(Conv.stringToBytes el ⟨s'.toArray⟩).run P w=.ok (.slice (some ⟨w.heap.size,0,none⟩) s'.length cap) { w with drawn:=w.drawn+1,heap:=w.heap.push (.cells C el (C.size,C.size+1)) }:=by
    unfold Conv.stringToBytes;rw[qV hch];have fC:((ByteArray.mk s'.toArray).data.map λb=>Value.int .u8 b.toNat)++Array.replicate (cap-(ByteArray.mk s'.toArray).size) (Value.int .u8 0)=C:=by rw[← hC,ma,uX];simp
    simp only[fC];rw[qV (gT el C)];have A5:(markStringish ⟨w.heap.size,0,none⟩).run P { w with drawn:=w.drawn+1,heap:=w.heap.push (.cells C el) }=.ok () { w with drawn:=w.drawn+1,heap:=w.heap.push (.cells C el (C.size,C.size+1)) }:=by
     unfold markStringish;have AN:(shape w.heap.size).run P { w with drawn:=w.drawn+1,heap:=w.heap.push (.cells C el) }=.ok (some (el,C.size)) { w with drawn:=w.drawn+1,heap:=w.heap.push (.cells C el) }:=by show Result.ok (World.shape? _ _) _=_;simp[World.shape?]
     rw[qV AN];show Result.ok () (World.freeze _ _ _)=_;simp only[World.freeze]
     congr 1
     simp only[Nat.one_ne_zero,if_false]
     congr 1
     apply Array.ext
     ·simp
     ·intro j h1 h2;simp only[Array.getElem_modify];by_cases hj:w.heap.size=j
      ·subst hj;simp
      ·rw[iQ hj];have:j<w.heap.size:=by simp at h2;omega
       simp[Array.getElem_push,this]
    rw[qV A5,uX];rfl
   rw[qV (conv.trans s2b)];simp[cv]
  ·cases e2
theorem qqI {t:TypeId} {x:Operand} (ho:o.op=.range t x) (hr:dr m D ρ r) (R:Rel P m D h w) (e:aX P c o.op r h fin=some (v,h')):dj P m D h w ((execOp ρ o).run P w) v h':=by
 rw[ho]at e;simp only[aX,qg]at e;obtain⟨d,hd,e⟩:=e;cases d<;>simp only[reduceCtorEq]at e
 simp only[qg]at e;obtain⟨a,ha,e⟩:=e;obtain⟨a1,a2⟩:=hr _ _ ha;simp only[execOp,ho,a1];unfold YW at e
 split at e
 ·rename_i s;simp only[qM]at e;obtain⟨rfl,rfl⟩:=e;refine UO R (b:=.iter s 0) (ob_:=.stringIter ⟨s.toArray⟩ 0) (room:=0) (w0:={ w with heap:=w.heap.push (.stringIter ⟨s.toArray⟩ 0) }) ?_ rfl rfl rfl rfl trivial ?_ (.inl rfl)
  ·unfold Instr.range;rw[qV (Ae.run_underlying hd)];simp only[cv];rw[qV (show(pure (Obj.stringIter ⟨s.toArray⟩ 0):Sem Obj).run P w=.ok _ w from rfl)];rw[qV (show(newObj (.stringIter ⟨s.toArray⟩ 0)).run P w=.ok w.heap.size { w with heap:=w.heap.push (.stringIter ⟨s.toArray⟩ 0) }from rfl)];simp
  ·show(w.heap.push _)[w.heap.size]? =_;simp
 ·cases e
theorem qzu {t:Operand} {b:Bool} (ho:o.op=.next t b) (hr:dr m D ρ r) (R:Rel P m D h w) (e:aX P c o.op r h fin=some (v,h')):dj P m D h w ((execOp ρ o).run P w) v h':=by
 rw[ho]at e;simp only[aX,jO,qg]at e;obtain⟨rfl,a,ha,e⟩:=e;obtain⟨a1,a2⟩:=hr _ _ ha;simp only[execOp,ho,a1];unfold Kf at e
 split at e
 ·rename_i q
  split at e
  ·rename_i s pos hg;obtain⟨x,hx,lH,_⟩:=R.br q a2;rw[hg]at hx;cases hx;have bx:w.heap[(m q).1]? =some (.stringIter ⟨s.toArray⟩ pos):=lH;have cD:(getObj (m q).1).run P w=.ok (.stringIter ⟨s.toArray⟩ pos) w:=by
    simp only[getObj,Sem.run,bx]
   have uX:(ByteArray.mk s.toArray).size=s.length:=by simp[ByteArray.size]
   cases hp:Nat.ble (pos+1) s.length
   ·have Di:=Xu hp;rw[hp]at e;simp only[cond_false,qM]at e;obtain⟨rfl,rfl⟩:=e;refine ja R ?_ ⟨trivial,trivial⟩;unfold Instr.next;simp only[cv];rw[qV cD];simp only[];rw[iQ (by rw[uX];omega)];rfl
   ·have Di:=jf hp;rw[hp]at e;simp only[cond_true,qM]at e;obtain⟨rfl,rfl⟩:=e;have ap:(m q).1<w.heap.size:=(Array.getElem?_eq_some_iff.1 bx).1;have mz:(setObj (m q).1 (.stringIter ⟨s.toArray⟩ (pos+(Utf8.decode ⟨s.toArray⟩ pos).2))).run P w=.ok () { w with heap:=w.heap.setIfInBounds (m q).1 (.stringIter ⟨s.toArray⟩ (pos+(Utf8.decode ⟨s.toArray⟩ pos).2)) }:=by
     simp only[setObj,Sem.run,bx]
    obtain⟨ex,re⟩:=R.put q (.iter s (pos+(Utf8.decode ⟨s.toArray⟩ pos).2)) (w0:={ w with heap:=w.heap.setIfInBounds (m q).1 (.stringIter ⟨s.toArray⟩ (pos+(Utf8.decode ⟨s.toArray⟩ pos).2)) }) a2 (G0 hg trivial) aN
     (λc hc=>by simp[Array.getElem?_setIfInBounds_ne (λe=>hc e.symm)]) rfl rfl rfl trivial (by
      show(w.heap.setIfInBounds _ _)[(m q).1]? =_
      simp[ap])
    refine⟨m,D,_,.inl ?_,ex,re,⟨trivial,trivial,trivial,trivial⟩⟩;have:(Instr.next (cv m (.ptr q 0)) true o.type).run P w=.ok (cv m (.bJ [.bool true,.int .i64 (.ofNat pos),.int .i32 (Utf8.decode ⟨s.toArray⟩ pos).1])) { w with heap:=w.heap.setIfInBounds (m q).1 (.stringIter ⟨s.toArray⟩ (pos+(Utf8.decode ⟨s.toArray⟩ pos).2)) }:=by unfold Instr.next;simp only[cv];rw[qV cD];simp only[];rw[iJ (by rw[uX];omega)];rw[qV mz];rfl
    rw[qV this];rfl
  ·cases e
 ·cases e
end Go.Ae
namespace Go.Ae
open Go
variable {P:Program} {m:Mp} {D:Nat→Prop} {h h':AH} {w:World} {c:CV} {ρ:Operand→Value} {r:Operand→Option AV} {o:Oper} {v:AV}
theorem J3 {t:TypeId} (e:Zd P t=true):∃kt et,P.underlying t=some (.map kt et)∧P.underlying kt=some (.int .i64)∧dH P et=some (.int .i64 (.ofNat 0)):=by
 unfold Zd at e
 split at e
 ·rename_i kt et h1
  split at e
  ·rename_i h2 h3 h4;exact⟨kt,et,h1,h2,h4⟩
  ·cases e
 ·cases e
theorem wa {b:Bool} {kt:TypeId} {x:Int} (hk:P.underlying kt=some (.int .i64)):(Instr.checkKey b 10000 kt (.int .i64 x)).run P w=.ok () w:=by show(Instr.checkKey b (9999+1) kt (.int .i64 x)).run P w=_;unfold Instr.checkKey;rw[qV (Ae.run_underlying hk)];rfl
theorem Et (a b:Int):lm a b=(a==b):=by rw[← NQ];exact(by
 cases a with
 |ofNat a=>cases b with
  |ofNat b=>
   show Nat.beq a b=(Int.ofNat a==Int.ofNat b);by_cases h:a=b
   ·subst h;rw[Nat.beq_refl];simp
   ·rw[xp h];symm;simp;omega
  |negSucc b=>rfl
 |negSucc a=>cases b with
  |ofNat b=>rfl
  |negSucc b=>
   show Nat.beq a b=(Int.negSucc a==Int.negSucc b);by_cases h:a=b
   ·subst h;rw[Nat.beq_refl];simp
   ·rw[xp h];symm;simp;omega)
theorem qk3 {x:Int}:∀(l:List (Int×Int×Nat)) (i:Nat),Instr.findNow (.int .i64) (.int .i64 x) (l.map zN) i=some ((wS x l i).map λe=>(e.1,Value.int .i64 e.2.1)):=by
 intro l
 induction l with
 |nil=>intro i;rfl
 |cons e l ih=>
  intro i
  show(match Instr.sameNow (.int .i64) (.int .i64 x) (zN e).key with
   |some true=>some (some (i,(zN e).val))
   |some false=>Instr.findNow (.int .i64) (.int .i64 x) (l.map zN) (i+1)
   |none=>none)=_
  have hs:Instr.sameNow (.int .i64) (.int .i64 x) (zN e).key=some (x==e.1):=by show(if IntKind.i64=IntKind.i64 then some (x==e.1)else none)=_;rw[iJ rfl]
  rw[hs];unfold wS;rw[Et];cases hb:(x==e.1)
  ·simp only[cond_false];exact ih (i+1)
  ·simp only[cond_true];rfl
theorem QY {kt:TypeId} {x:Int} {l:List (Int×Int×Nat)} (hk:P.underlying kt=some (.int .i64)):(Instr.findKey kt (.int .i64 x) (l.map zN).toArray.toList).run P w=.ok ((wS x l 0).map λe=>(e.1,Value.int .i64 e.2.1)) w:=by unfold Instr.findKey;rw[qV (Ae.run_underlying hk)];simp only[qk3];rfl
theorem kg {b:Nat} {l:List (Int×Int×Nat)} {q:Nat} (hh:w.heap[b]? =some (.map (l.map zN).toArray q)):(getObj b).run P w=.ok (.map (l.map zN).toArray q) w:=by simp only[getObj,Sem.run,hh]
theorem vD {b:Nat} {es:Array MapEntry} {q:Nat} {o2:Obj} (hh:w.heap[b]? =some (.map es q)):(setObj b o2).run P w=.ok () { w with heap:=w.heap.setIfInBounds b o2 }:=by simp only[setObj,Sem.run,hh]
theorem UP {x:Int}:∀{l:List (Int×Int×Nat)} {i:Nat} {e:Nat×Int×Nat},wS x l i=some e→i≤e.1∧l[e.1-i]? =some (x,e.2):=by
 intro l
 induction l with
 |nil=>intro i e h;cases h
 |cons a l ih=>
  intro i e h;unfold wS at h;rw[Et]at h;cases hb:(x==a.1)
  ·rw[hb]at h;simp only[cond_false]at h;obtain⟨h1,h2⟩:=ih h;refine⟨by omega,?_⟩;rw[show e.1-i=(e.1-(i+1))+1 by omega];exact h2
  ·rw[hb]at h;simp only[cond_true,Option.some.injEq]at h;subst h;refine⟨Nat.le_refl _,?_⟩;have:x=a.1:=by simpa using hb
   subst this;simp
theorem Jl (R:Rel P m D h w) {b:Nat} {l l2:List (Int×Int×Nat)} {q q2:Nat} (hd:D b) (hg:h.get b=some (.mp l q)) :
  ∃w0,w0={ w with heap:=w.heap.setIfInBounds (m b).1 (.map (l2.map zN).toArray q2) }∧Ext m D h w m D (h.put b (.mp l2 q2)) w0∧Rel P m D (h.put b (.mp l2 q2)) w0:=by
 obtain⟨x,hx,lH,_⟩:=R.br b hd;rw[hg]at hx;cases hx;have bx:w.heap[(m b).1]? =some (.map (l.map zN).toArray q):=lH;have ap:(m b).1<w.heap.size:=(Array.getElem?_eq_some_iff.1 bx).1
 refine⟨_,rfl,R.put b (.mp l2 q2) (w0:={ w with heap:=w.heap.setIfInBounds (m b).1 (.map (l2.map zN).toArray q2) }) hd (G0 hg trivial) aN
  (λc hc=>by simp[Array.getElem?_setIfInBounds_ne (λe=>hc e.symm)]) rfl rfl rfl trivial (by
   show(w.heap.setIfInBounds _ _)[(m b).1]? =_
   simp[ap])⟩
theorem qQ4 {t:TypeId} {hint:Option Operand} (ho:o.op=.makeMap t hint) (R:Rel P m D h w) (e:aX P c o.op r h fin=some (v,h')):dj P m D h w ((execOp ρ o).run P w) v h':=by
 rw[ho]at e;simp only[aX]at e;cases hint with
 |some x=>cases e
 |none=>
  simp only[jO]at e;obtain⟨_,e⟩:=e;unfold QH at e;simp only[qM]at e;obtain⟨rfl,rfl⟩:=e;simp only[execOp,ho];refine UO R (b:=.mp [] 0) (ob_:=.map #[] 0) (room:=0) (w0:={ w with heap:=w.heap.push (.map #[] 0) }) ?_ rfl rfl rfl rfl trivial ?_ (.inl rfl)
  ·show(Instr.makeMap t none).run P w=_;unfold Instr.makeMap;simp only[cv,if_true];rfl
  ·show(w.heap.push _)[w.heap.size]? =_;simp
theorem qWI {t:TypeId} {x i:Operand} {ok:Bool} (ho:o.op=.lookup t x i ok) (hr:dr m D ρ r) (R:Rel P m D h w) (e:aX P c o.op r h fin=some (v,h')):dj P m D h w ((execOp ρ o).run P w) v h':=by
 rw[ho]at e;simp only[aX,jO,Bool.and_eq_true,Bool.not_eq_true',qg]at e;obtain⟨⟨hm,rfl⟩,a,ha,j,hj,e⟩:=e;obtain⟨kt,et,h1,h2,h3⟩:=J3 hm;obtain⟨a1,a2⟩:=hr _ _ ha;obtain⟨j1,j2⟩:=hr _ _ hj;simp only[execOp,ho,a1,j1];unfold X5 at e
 split at e
 rotate_left
 ·cases e
 rename_i b y
 split at e
 rotate_left
 ·cases e
 rename_i l q hg;obtain⟨x',fo,lH,_⟩:=R.br b a2;rw[hg]at fo;cases fo;have bx:w.heap[(m b).1]? =some (.map (l.map zN).toArray q):=lH;have key:∀z:Int,(match wS y l 0 with |some e=>e.2.1 |none=>0)=z→(Instr.lookup t (cv m (.cI b)) (cv m (.int .i64 y)) false).run P w=.ok (.int .i64 z) w:=by
  intro z hz;unfold Instr.lookup;rw[qV (Ae.run_underlying h1)];simp only[cv];rw[qV (kg bx)];simp only[];rw[qV (show(pure (l.map zN).toArray:Sem (Array MapEntry)).run P w=.ok (l.map zN).toArray w from rfl)];rw[qV (wa h2),qV (QY h2)];cases hf:wS y l 0 with
  |some e=>rw[hf]at hz;simp only[Option.map_some];rw[← hz];rfl
  |none=>rw[hf]at hz;simp only[Option.map_none];have Eu:=(xP (w:=w) (m:=m) (D:=D) h3).1;rw[qV Eu];rw[← hz];rfl
 split at e
 ·rename_i e1 hf;simp only[qM]at e;obtain⟨rfl,rfl⟩:=e;exact ja R (key e1.2.1 (by rw[hf])) trivial
 ·rename_i hf;simp only[qM]at e;obtain⟨rfl,rfl⟩:=e;exact ja R (key 0 (by rw[hf])) trivial
theorem ZX {es:Array MapEntry} {i:Nat} {f:MapEntry→MapEntry} (h:∀e,es[i]? =some e→f e=e):es.modify i f=es:=by
 apply Array.ext_getElem?;intro j;rw[Array.getElem?_modify];by_cases e:i=j
 ·subst e;rw[iJ rfl];cases hh:es[i]? with
  |none=>rfl
  |some x=>rw[Option.map_some,h x hh]
 ·rw[iQ e]
theorem qz3 {t:TypeId} {x i:Operand} (ho:o.op=.mapEntry t x i) (hr:dr m D ρ r) (R:Rel P m D h w) (e:aX P c o.op r h fin=some (v,h')):dj P m D h w ((execOp ρ o).run P w) v h':=by
 rw[ho]at e;simp only[aX,jO,qg]at e;obtain⟨hm,a,ha,j,hj,e⟩:=e;obtain⟨kt,et,h1,h2,h3⟩:=J3 hm;obtain⟨a1,a2⟩:=hr _ _ ha;obtain⟨j1,j2⟩:=hr _ _ hj;simp only[execOp,ho,a1,j1];unfold Kk at e
 split at e
 rotate_left
 ·cases e
 rename_i b y
 split at e
 rotate_left
 ·cases e
 rename_i l q hg;obtain⟨x',fo,lH,_⟩:=R.br b a2;rw[hg]at fo;cases fo;have bx:w.heap[(m b).1]? =some (.map (l.map zN).toArray q):=lH
 have start:∀{z:Value} {w0:World},((do
   match(wS y l 0).map λe=>(e.1,Value.int .i64 e.2.1)with
   |some (i,v)=>
    let key ← Instr.keyThatStays ((((l.map zN).toArray[i]?).map (·.key)).getD (.int .i64 y)) (.int .i64 y)
    setObj (m b).1 (.map ((l.map zN).toArray.modify i λe=>{ e with key }) q)
    pure (.tuple #[v,goInt ((((l.map zN).toArray[i]?).map (·.born)).getD 0)])
   |none=>
    let zero ← zeroValue et
    setObj (m b).1 (.map ((l.map zN).toArray.push { key:=.int .i64 y,val:=zero,born:=q }) (q+1))
    pure (.tuple #[zero,goInt q]):Sem Value).run P w=.ok z w0)→(Instr.mapEntry t (cv m (.cI b)) (cv m (.int .i64 y))).run P w=.ok z w0:=by
  intro z w0 hz;unfold Instr.mapEntry;rw[qV (Ae.run_underlying h1)];simp only[cv];rw[qV (kg bx)];simp only[];rw[qV (wa h2),qV (QY h2)];exact hz
 split at e
 ·rename_i e1 hf;simp only[qM]at e;obtain⟨rfl,rfl⟩:=e;obtain⟨_,dv⟩:=UP hf;rw[Nat.sub_zero]at dv;have mA:(l.map zN).toArray[e1.1]? =some (zN (y,e1.2)):=by
   simp[dv]
  refine ja R (start ?_) ⟨trivial,trivial,trivial⟩;rw[hf];simp only[Option.map_some,mA,Option.getD_some];have hk:(Instr.keyThatStays (zN (y,e1.2)).key (.int .i64 y)).run P w=.ok (.int .i64 y) w:=by
   unfold Instr.keyThatStays
   rw[iJ (show Instr.sameBits 10000 (zN (y,e1.2)).key (.int .i64 y)=true by
    show((IntKind.i64==IntKind.i64)&&(y==y))=true
    simp)]
   rfl
  rw[qV hk];rw[ZX (λe he=>by rw[mA]at he;cases he;rfl)];rw[qV (vD bx)];have oQ:w.heap.setIfInBounds (m b).1 (.map (l.map zN).toArray q)=w.heap:=by
   apply Array.ext_getElem?;intro k;by_cases hk:(m b).1=k
   ·subst hk;have:=(Array.getElem?_eq_some_iff.1 bx).1;rw[bx];simp[this]
   ·rw[Array.getElem?_setIfInBounds_ne hk]
  rw[oQ];rfl
 ·rename_i hf;simp only[qM]at e;obtain⟨rfl,rfl⟩:=e;obtain⟨w0,eZ,X,R2⟩:=Jl R (l2:=l++[(y,Int.ofNat 0,q)]) (q2:=q+1) a2 hg;refine⟨m,D,w0,.inl ?_,X,R2,⟨trivial,trivial,trivial⟩⟩;have Eu:=(xP (w:=w) (m:=m) (D:=D) h3).1
  have:=start (z:=.tuple #[.int .i64 0,goInt q]) (w0:=w0) (by
   rw[hf];simp only[Option.map_none];rw[qV Eu,qV (vD bx)];have e2:(l.map zN).toArray.push { key:=.int .i64 y,val:=cv m (.int .i64 (.ofNat 0)),born:=q }=((l++[(y,Int.ofNat 0,q)]).map zN).toArray:=by simp[zN,cv]
   rw[e2,eZ];rfl)
  rw[qV this];rfl
theorem qG5 {x:Int}:∀{l:List (Int×Int×Nat)} {i j:Nat},C5 x l i=some j→i≤j∧(l.map zN).findIdx? (λe=>(e.born:Int)==x)=some (j-i):=by
 intro l
 induction l with
 |nil=>intro i j h;cases h
 |cons a l ih=>
  intro i j h;unfold C5 at h;rw[Et]at h;rw[List.map_cons,List.findIdx?_cons];have uY:((zN a).born:Int)=Int.ofNat a.2.2:=rfl;rw[uY];cases hb:(Int.ofNat a.2.2==x)
  ·rw[hb]at h;simp only[cond_false]at h;obtain⟨h1,h2⟩:=ih h;refine⟨by omega,?_⟩;rw[h2];simp only[Bool.false_eq_true,if_false,Option.map_some]
   congr 1;omega
  ·rw[hb]at h;simp only[cond_true,Option.some.injEq]at h;subst h;exact⟨Nat.le_refl _,by simp⟩
theorem qG1 {y:Int}:∀{l:List (Int×Int×Nat)} {i:Nat},(x5 y l i).map zN=(l.map zN).modify i λe=>{ e with val:=.int .i64 y }:=by
 intro l
 induction l with
 |nil=>intro i;cases i<;>rfl
 |cons a l ih=>
  intro i;cases i with
  |zero=>rfl
  |succ i=>show zN a::(x5 y l i).map zN=_;rw[ih];rfl
theorem qk6 {t:TypeId} {x s y:Operand} (ho:o.op=.entryStore t x s y) (hr:dr m D ρ r) (R:Rel P m D h w) (e:aX P c o.op r h fin=some (v,h')):dj P m D h w ((execOp ρ o).run P w) v h':=by
 rw[ho]at e;simp only[aX,qg]at e;obtain⟨a,ha,j,hj,u,hu,e⟩:=e;obtain⟨a1,a2⟩:=hr _ _ ha;obtain⟨j1,j2⟩:=hr _ _ hj;obtain⟨u1,u2⟩:=hr _ _ hu;simp only[execOp,ho,a1,j1,u1];unfold Z7 at e
 split at e
 rotate_left
 ·cases e
 rename_i b x0 z
 split at e
 rotate_left
 ·cases e
 rename_i l q hg;obtain⟨x',fo,lH,_⟩:=R.br b a2;rw[hg]at fo;cases fo;have bx:w.heap[(m b).1]? =some (.map (l.map zN).toArray q):=lH
 split at e
 rotate_left
 ·cases e
 rename_i i hf;simp only[qM]at e;obtain⟨rfl,rfl⟩:=e;obtain⟨_,Iq⟩:=qG5 hf;rw[Nat.sub_zero]at Iq;obtain⟨w0,eZ,X,R2⟩:=Jl R (l2:=x5 z l i) (q2:=q) a2 hg;refine⟨m,D,w0,.inr ⟨?_,rfl⟩,X,R2,trivial⟩;have:(Instr.entryStore t (cv m (.cI b)) (cv m (.int .i64 x0)) (cv m (.int .i64 z))).run P w=.ok () w0:=by
  unfold Instr.entryStore;simp only[cv];rw[qV (kg bx)];simp only[];rw[qV (show(asInt (.int .i64 x0)).run P w=.ok x0 w from rfl)];have hfa:(l.map zN).toArray.findIdx? (λe=>(e.born:Int)==x0)=some i:=by rw[List.findIdx?_toArray];exact Iq
  rw[hfa];simp only[];have e2:(l.map zN).toArray.modify i (λe=>{ e with val:=.int .i64 z })=((x5 z l i).map zN).toArray:=by rw[qG1,List.modify_toArray]
  rw[e2,eZ];exact vD bx
 rw[qV this];rfl
theorem qK5 {x y:Int}:∀{l:List (Int×Int×Nat)} {i:Nat},(∀e,l[i]? =some e→e.1=x)→(x5 y l i).map zN=(l.map zN).modify i λe=>{ e with key:=.int .i64 x,val:=.int .i64 y }:=by
 intro l
 induction l with
 |nil=>intro i _;cases i<;>rfl
 |cons a l ih=>
  intro i hx;cases i with
  |zero=>have:=hx a rfl;subst this;rfl
  |succ i=>show zN a::(x5 y l i).map zN=_;rw[ih λe he=>hx e he];rfl
theorem qxC {t:TypeId} {x s y:Operand} (ho:o.op=.mapUpdate t x s y) (hr:dr m D ρ r) (R:Rel P m D h w) (e:aX P c o.op r h fin=some (v,h')):dj P m D h w ((execOp ρ o).run P w) v h':=by
 rw[ho]at e;simp only[aX,jO,qg]at e;obtain⟨hm,a,ha,j,hj,u,hu,e⟩:=e;obtain⟨kt,et,h1,h2,h3⟩:=J3 hm;obtain⟨a1,a2⟩:=hr _ _ ha;obtain⟨j1,j2⟩:=hr _ _ hj;obtain⟨u1,u2⟩:=hr _ _ hu;simp only[execOp,ho,a1,j1,u1];unfold UX at e
 split at e
 rotate_left
 ·cases e
 rename_i b x0 z
 split at e
 rotate_left
 ·cases e
 rename_i l q hg;obtain⟨x',fo,lH,_⟩:=R.br b a2;rw[hg]at fo;cases fo;have bx:w.heap[(m b).1]? =some (.map (l.map zN).toArray q):=lH
 have start:∀{w0:World},((do
   match(wS x0 l 0).map λe=>(e.1,Value.int .i64 e.2.1)with
   |some (i,_)=>do
    let key ← Instr.keyThatStays ((((l.map zN).toArray[i]?).map (·.key)).getD (.int .i64 x0)) (.int .i64 x0)
    setObj (m b).1 (.map ((l.map zN).toArray.modify i λe=>{ e with key,val:=.int .i64 z }) q)
   |none=>setObj (m b).1 (.map ((l.map zN).toArray.push { key:=.int .i64 x0,val:=.int .i64 z,born:=q }) (q+1)):Sem Unit).run P w=.ok () w0)→(Instr.mapUpdate t (cv m (.cI b)) (cv m (.int .i64 x0)) (cv m (.int .i64 z))).run P w=.ok () w0:=by
  intro w0 hz;unfold Instr.mapUpdate;rw[qV (Ae.run_underlying h1)];simp only[cv];rw[qV (kg bx)];simp only[];rw[qV (wa h2),qV (QY h2)];exact hz
 split at e
 ·rename_i e1 hf;simp only[qM]at e;obtain⟨rfl,rfl⟩:=e;obtain⟨_,dv⟩:=UP hf;rw[Nat.sub_zero]at dv;have mA:(l.map zN).toArray[e1.1]? =some (zN (x0,e1.2)):=by
   simp[dv]
  obtain⟨w0,eZ,X,R2⟩:=Jl R (l2:=x5 z l e1.1) (q2:=q) a2 hg;refine⟨m,D,w0,.inr ⟨?_,rfl⟩,X,R2,trivial⟩
  have:=start (w0:=w0) (by
   rw[hf];simp only[Option.map_some,mA,Option.getD_some];have hk:(Instr.keyThatStays (zN (x0,e1.2)).key (.int .i64 x0)).run P w=.ok (.int .i64 x0) w:=by
    unfold Instr.keyThatStays
    rw[iJ (show Instr.sameBits 10000 (zN (x0,e1.2)).key (.int .i64 x0)=true by
     show((IntKind.i64==IntKind.i64)&&(x0==x0))=true
     simp)]
    rfl
   rw[qV hk];have e2:(l.map zN).toArray.modify e1.1 (λe=>{ e with key:=.int .i64 x0,val:=.int .i64 z })=((x5 z l e1.1).map zN).toArray:=by rw[qK5 (x:=x0) (λe he=>by rw[dv]at he;cases he;rfl),List.modify_toArray]
   rw[e2,eZ]
   exact vD bx)
  rw[qV this];rfl
 ·rename_i hf;simp only[qM]at e;obtain⟨rfl,rfl⟩:=e;obtain⟨w0,eZ,X,R2⟩:=Jl R (l2:=l++[(x0,z,q)]) (q2:=q+1) a2 hg;refine⟨m,D,w0,.inr ⟨?_,rfl⟩,X,R2,trivial⟩
  have:=start (w0:=w0) (by
   rw[hf];simp only[Option.map_none];have e2:(l.map zN).toArray.push { key:=.int .i64 x0,val:=.int .i64 z,born:=q }=((l++[(x0,z,q)]).map zN).toArray:=by simp[zN]
   rw[e2,eZ]
   exact vD bx)
  rw[qV this];rfl
theorem qKR {α β:Type} {f:α→β}:∀{l:List α} {i:Nat},(l.eraseIdx i).map f=(l.map f).eraseIdx i:=by
 intro l
 induction l with
 |nil=>intro i;rfl
 |cons a l ih=>
  intro i;cases i with
  |zero=>rfl
  |succ i=>show f a::(l.eraseIdx i).map f=_;rw[ih];rfl
theorem qz0 {cl:Call} (ho:o.op=.call cl) (hc:cl.callee=.builtin .delete) (hr:dr m D ρ r) (R:Rel P m D h w) (e:aX P c o.op r h fin=some (v,h')):dj P m D h w ((execOp ρ o).run P w) v h':=by
  obtain⟨cs,hx⟩:=gG (P:=P) (w:=w) (ρ:=ρ) ho hc;rw[ho]at e;simp only[aX,hc]at e
  split at e
  rotate_left
  · cases e
  rename_i s x t ts ha dv;simp only[jO,qg]at e;obtain⟨hm,a,hs,j,hj,e⟩:=e;obtain⟨kt,et,h1,h2,h3⟩:=J3 hm;obtain⟨a1,a2⟩:=hr _ _ hs;obtain⟨j1,j2⟩:=hr _ _ hj;rw[hx,yq ha,yq dv];simp only[List.map_toArray,List.map_cons,List.map_nil,a1,j1];unfold Ub at e
  split at e
  rotate_left
  · cases e
  rename_i b y
  split at e
  rotate_left
  · cases e
  rename_i l q hg;obtain⟨x',fo,lH,_⟩:=R.br b a2;rw[hg]at fo;cases fo;have bx:w.heap[(m b).1]? =some (.map (l.map zN).toArray q):=lH
  have bL : ∀ {l2 : List (Int × Int × Nat)} {w0 : World}, w0 = { w with heap := w.heap.setIfInBounds (m b).1 (.map (l2.map zN).toArray q) } → ((do
        match(wS y l 0).map λe=>(e.1,Value.int .i64 e.2.1)with
        |some (i,_)=>setObj (m b).1 (.map ((l.map zN).toArray.eraseIdxIfInBounds i) q)
        |none=>setObj (m b).1 (.map (l.map zN).toArray q):Sem Unit).run P w=.ok () w0)→
      (builtin .delete (t::ts).toArray o.type cs #[cv m (.cI b),cv m (.int .i64 y)]).run P w=.ok (.value (.tuple #[])) w0:=by
    intro l2 w0 _ hz;show(do pure (Next.value (← Builtin.delete_ (t::ts).toArray o.type #[cv m (.cI b),cv m (.int .i64 y)])):Sem Next).run P w=_;have:(Builtin.delete_ (t::ts).toArray o.type #[cv m (.cI b),cv m (.int .i64 y)]).run P w=.ok (.tuple #[]) w0:=by
      unfold Builtin.delete_;simp only[List.getElem?_toArray,List.getElem?_cons_zero];rw[show([cv m (.cI b),cv m (.int .i64 y)]:List Value)[1]? =some (cv m (.int .i64 y))from rfl];simp only[];rw[qV (Ae.run_underlying h1)];simp only[cv];rw[qV (kg bx)];simp only[];rw[qV (wa h2),qV (QY h2)];cases hf:wS y l 0 with
      |some e=>rw[hf]at hz;simp only[Option.map_some]at hz ⊢;rw[qV hz];rfl
      |none=>rw[hf]at hz;simp only[Option.map_none]at hz ⊢;rw[qV hz];rfl
    rw[qV this];rfl
  split at e
  · rename_i e1 hf;simp only[qM]at e;obtain⟨rfl,rfl⟩:=e;obtain⟨_,mA⟩:=UP hf;rw[Nat.sub_zero]at mA;have ap:e1.1<l.length:=(List.getElem?_eq_some_iff.1 mA).1;obtain⟨w0,eZ,X,R2⟩:=Jl R (l2:=l.eraseIdx e1.1) (q2:=q) a2 hg;refine⟨m,D,w0,.inl (bL eZ ?_),X,R2,trivial⟩;rw[hf];simp only[Option.map_some];have e2:(l.map zN).toArray.eraseIdxIfInBounds e1.1=((l.eraseIdx e1.1).map zN).toArray:=by
      rw[List.eraseIdxIfInBounds_toArray];rw[qKR]
    rw[e2,eZ];exact vD bx
  · rename_i hf;simp only[qM]at e;obtain⟨rfl,rfl⟩:=e;obtain⟨w0,eZ,X,R2⟩:=Jl R (l2:=l) (q2:=q) a2 hg;refine⟨m,D,w0,.inl (bL eZ ?_),X,R2,trivial⟩;rw[hf];simp only[Option.map_none];rw[eZ];exact vD bx
end Go.Ae
namespace Go.Ae
open Go
variable {P:Program} {m:Mp} {D:Nat→Prop} {h h':AH} {w:World} {c:CV} {ρ:Operand→Value} {r:Operand→Option AV} {o:Oper} {v:AV}
theorem Ir (A6:∀cl f,o.op=.call cl→cl.callee≠.value f) (fG:∀cl x n,o.op=.call cl→cl.callee≠.invoke x n) (hr:dr m D ρ r) (R:Rel P m D h w) (e:cg P c o.op r h=some (v,h')):dj P m D h w ((execOp ρ o).run P w) v h':=by
 have e:aX P c o.op r h fin=some (v,h'):=e;cases ho:o.op with
 |move x=>exact qzc ho hr R e
 |assign x=>exact qXs ho hr R e
 |pick x y z=>exact qjS ho hr R e
 |alloc t=>exact qV8 ho R e
 |box t x=>exact qvf ho hr R e
 |build t p=>exact qGS ho hr R e
 |buildSlice t n p=>exact qKF ho hr R e
 |load t x=>exact qzO ho hr R e
 |store t x y=>exact qGp ho hr R e
 |nilCheck x=>exact qgM ho hr R e
 |binOp op t x y u=>exact qvA ho hr R e
 |unOp op t x=>exact AM ho hr R e
 |convert s d x=>exact qxr ho hr R e
 |makeInterface t x=>exact qWh ho hr R e
 |makeFunc f x y=>exact OA ho hr R e
 |makeSlice t x y=>exact qx8 ho hr R e
 |slice t x lo hi mx=>exact qWm ho hr R e
 |fieldAddr t x f=>exact qGs ho hr R e
 |field t x f=>exact qjD ho hr R e
 |indexAddr t x i=>exact Mu ho hr R e
 |index t x i=>exact qG8 ho hr R e
 |typeAssert x xt t ok=>exact qK4 ho hr R e
 |extract x i=>exact Zr ho hr R e
 |range t x=>exact qqI ho hr R e
 |next x b=>exact qzu ho hr R e
 |makeMap t x=>exact qQ4 ho R e
 |lookup t x y b=>exact qWI ho hr R e
 |mapEntry t x y=>exact qz3 ho hr R e
 |mapUpdate t x y z=>exact qxC ho hr R e
 |entryStore t x y z=>exact qk6 ho hr R e
 |call cl=>
  cases hc:cl.callee with
  |value f=>exact absurd hc (A6 cl f ho)
  |invoke a b=>exact absurd hc (fG cl a b ho)
  |builtin b=>
   cases b with
   |len=>exact qvD ho hc hr R e
   |min=>exact Ig (mx:=false) ho hc hr R e
   |max=>exact Ig (mx:=true) ho hc hr R e
   |append=>exact qKc ho hc hr R e
   |copy=>exact qjO ho hc hr R e
   |delete=>exact qz0 ho hc hr R e
   |_=>rw[ho]at e;simp only[aX,hc,reduceCtorEq]at e
 |_=>rw[ho]at e;simp only[aX,reduceCtorEq]at e
end Go.Ae
namespace Go.Ae
open Go
variable {P:Program} {m:Mp} {D:Nat→Prop} {h h':AH} {w:World} {c:CV} {o:Oper} {v:AV}
def FW (rd:Option Nat):Fence:={ Fence.wide with round:=rd }
def kz (P:Program) (m:Mp) (D:Nat→Prop) (h:AH) (w:World) (r:AV×AH):Ending→World→Prop :=
 λe w'=>∃m' D',e=.returned (cv m' r.1)∧Ext m D h w m' D' r.2 w'∧Rel P m' D' r.2 w'∧bm D' r.1
def NM (P:Program) (m:Mp) (D:Nat→Prop) (h:AH) (w:World) (args:List AV) (r:AV×AH):AV→Prop
 | .fn f first cap=>(∀as W,(callFunc f as).run P W=.ok (.enter f as) W)∧∀n,CallsIn Fence.wide n P f (aT m (first++args++cap)).toArray w (kz P m D h w r)
 | .yield l=>∃f' tmps assign body,(Instr.yield (m l).1 (aT m args).toArray).run P w=.ok (.round (m l).1 f' tmps assign body) w∧∀n,RoundIn Fence.wide n P (m l).1 f' tmps assign body w (kz P m D h w r)
 |_=>False
def x7 (P:Program) (c:CV):Prop :=
 ∀vf args h r,c vf args h=some r→∀m D w,Rel P m D h w→bm D vf→aY D args→NM P m D h w args r vf
theorem O9 (m:Mp):cv m .undef=undef:=rfl
theorem qGF {l:List (Nat×Nat)} {t f:Nat} (e:GS l t=some f):(t,f)∈l:=by
 induction l with
 |nil=>cases e
 |cons p l ih=>
  have e':Bool.rec (motive:=λ_=>Option Nat) (GS l t) (some p.2) (Nat.beq p.1 t)=some f:=e;cases hb:Nat.beq p.1 t
  ·rw[hb]at e';exact iX _ (ih e')
  ·rw[hb]at e';have:=jd hb;subst this;cases e';exact iK ..
theorem qY0 {name:String} {t f:Nat}:∀{L:List Nat},(t,f)∈OG P name L→Ml P name t=some f:=by
 intro L
 induction L with
 |nil=>intro h;cases h
 |cons a L ih=>
  intro h;unfold OG at h
  split at h
  ·rename_i g hg;rcases List.mem_cons.1 h with h |h
   ·cases h;exact hg
   ·exact ih h
  ·exact ih h
theorem qQl {name:String} {t f:Nat} (e:Ml P name t=some f) (n:Nat) (x:Value) (w:World):(method (n+1) t x name).run P w=.ok (f,x) w:=by
 simp only[Ml,Option.bind_eq_some_iff]at e;obtain⟨i,hi,mm,hm,e⟩:=e;rw[qs]at e;obtain⟨hp,e⟩:=e;simp only[Option.bind_eq_some_iff]at e;obtain⟨g,hg,e⟩:=e;obtain⟨gf,gb⟩:=g;rw[qs]at e;obtain⟨hb,e⟩:=e;simp only at hb;subst hb;simp only[Option.bind_eq_some_iff]at e;obtain⟨d,hd,e⟩:=e
 split at e
 ·rename_i el;cases e;have Ev:mm.path= #[]:=by simpa using hp
  have hf:i.methods.find? (·.name==name)=some mm:=by rw[← Array.find?_toList];exact hm
  unfold method;rw [qV (run_typeInfo hi)];simp only [hf, Ev, hg];rw [qV (show (follow (#[] : Array FieldStep).toList t (.val x)).run P w = .ok (t, .val x) w from rfl)];simp only [];have hr : (receiverAt t (.val x) true (if (#[] : Array FieldStep).isEmpty = true then some ((name.splitOn ".").getLastD name) else none)).run P w = .ok x w := by unfold receiverAt;rw [qV (run_underlying hd)];rfl
  rw[qV hr];rfl
 ·cases e
theorem Oq (hc:x7 P c) {rd:Option Nat} {n:Nat} {a:Act} {r:Operand→Option AV} (hr:dr m D a.eval r) (R:Rel P m D h w) (e:cg P c o.op r h=some (v,h'))
  {next:Act→World→Prop} {Q:Exit→Act→World→Prop}
  (hn:∀m' D' w',Ext m D h w m' D' h' w'→Rel P m' D' h' w'→bm D' v→next (a.put o.dst (cv m' v)) w'):o.wpIn (FW rd) n P a w next Q:=by
 have hnd:∀cl,o.op≠.defer cl:=by intro cl eD;unfold cg at e;rw[eD]at e;simp only[aX,reduceCtorEq]at e
 refine⟨λ_ _=>trivial,?_⟩;rw[Oper.semAt_eq _ _ _ hnd];by_cases hv:∃cl f,o.op=.call cl∧cl.callee=.value f
 ·obtain⟨cl,f,ho,ix⟩:=hv;unfold cg at e;rw[ho]at e;simp only[aX,ix,qg]at e;obtain⟨vf,sG,va,rL,e⟩:=e;obtain⟨f1,f2⟩:=hr _ _ sG;obtain⟨v1,v2⟩:=kC hr rL;rw[kR]at e
  split at e
  ·rename_i q hq;simp only[qM]at e;obtain⟨rfl,rfl⟩:=e;have dB:=hc vf va h q hq m D w R f2 v2;have fV:cl.args.map a.eval=(aT m va).toArray:=by rw[G4,v1]
   cases vf<;>simp only[NM]at dB
   case fn f' first cap=>
    obtain⟨k1,k2⟩:=dB;have cE:(execOp a.eval o).run P w=.ok (.enter f' (aT m (first++va++cap)).toArray) w:=by
     simp only[execOp,ho];have h1:(resolve a.eval cl o.type).run P w=.ok { target:=.fn (.func f') (aT m cap).toArray,args:=(aT m first).toArray++(aT m va).toArray } w:=by unfold resolve;rw[ix];simp only[f1,cv,fV];rfl
     rw[qV h1];show(invoke (.fn (.func f') (aT m cap).toArray) ((aT m first).toArray++(aT m va).toArray)).run P w=_;unfold invoke;show(callFunc f' ((aT m first).toArray++(aT m va).toArray++(aT m cap).toArray)).run P w=_;rw[k1];simp[Jr]
    rw[cE];refine⟨(λhh=>by cases hh),?_⟩;refine CallsIn.mono (show CallsIn (FW rd) (n-1) P f' _ w _ from k2 (n-1)) ?_;rintro ee w' ⟨m',D',rfl,ex,re,hd⟩;exact hn m' D' w' ex re hd
   case yield l=>
    obtain⟨f',tmps,assign,body,k1,k2⟩:=dB;have cE:(execOp a.eval o).run P w=.ok (.round (m l).1 f' tmps assign body) w:=by
     simp only[execOp,ho];have h1:(resolve a.eval cl o.type).run P w=.ok { target:=.fn (.yield (m l).1) #[],args:=(aT m va).toArray } w:=by unfold resolve;rw[ix];simp only[f1,cv,fV,Deferred.ofValue];show Result.ok _ w=_;simp
     rw[qV h1];exact k1
    rw[cE];refine⟨(λhh=>by cases hh),?_⟩;refine RoundIn.mono (show RoundIn (FW rd) (n-1) P _ _ _ _ _ w _ from k2 (n-1)) ?_;rintro ee w' ⟨m',D',rfl,ex,re,hd⟩;exact hn m' D' w' ex re hd
  ·cases e
 ·have A6:∀cl f,o.op=.call cl→cl.callee≠.value f:=λcl f h1 h2=>hv ⟨cl,f,h1,h2⟩;by_cases hi:∃cl x name,o.op=.call cl∧cl.callee=.invoke x name
  ·obtain⟨cl,x,name,ho,ix⟩:=hi;unfold cg at e;rw[ho]at e;simp only[aX,ix,qg]at e;obtain⟨vx,rK,va,rL,e⟩:=e;obtain⟨f1,f2⟩:=hr _ _ rK;obtain⟨v1,v2⟩:=kC hr rL;unfold yz at e
   split at e
   ·rename_i t y;cases hf:GS (NH P name) t with
    |none=>rw[hf]at e;cases e
    |some f=>
     rw[hf]at e;simp only[kR]at e
     split at e
     ·rename_i q hq;simp only[qM]at e;obtain⟨rfl,rfl⟩:=e;have dB:=hc (.fn f [] []) (y::va) h q hq m D w R ⟨trivial,trivial⟩ ⟨f2,v2⟩;obtain⟨k1,k2⟩:=dB;have fV:cl.args.map a.eval=(aT m va).toArray:=by rw[G4,v1]
      have cE:(execOp a.eval o).run P w=.ok (.enter f (aT m (y::va)).toArray) w:=by
       simp only[execOp,ho];have h1:(resolve a.eval cl o.type).run P w=.ok { target:=.fn (.method name) #[],args:=#[.iface t (cv m y)]++(aT m va).toArray } w:=by unfold resolve;rw[ix];simp only[f1,cv,fV];rfl
       rw[qV h1];show(invoke (.fn (.method name) #[]) (#[.iface t (cv m y)]++(aT m va).toArray)).run P w=_;unfold invoke;simp only[Array.getElem?_append,List.size_toArray,List.length_cons,List.length_nil,Nat.zero_add,Nat.lt_succ_self,if_true];show(callMethod (.iface t (cv m y)) name _).run P w=_;unfold callMethod;simp only[];rw[qV (show(program).run P w=.ok P w from rfl)];have A7:(method (P.types.size+Made.depth) t (cv m y) name).run P w=.ok (f,cv m y) w:=qQl (qY0 (qGF hf)) _ _ _;rw[qV A7];simp only[];rw[k1];simp[aT,List.take_of_length_le]
      rw[cE];refine⟨(λhh=>by cases hh),?_⟩;have k3:=k2 (n-1);rw[List.nil_append,List.append_nil]at k3;refine CallsIn.mono (show CallsIn (FW rd) (n-1) P f _ w _ from k3) ?_;rintro ee w' ⟨m',D',rfl,ex,re,hd⟩;exact hn m' D' w' ex re hd
     ·cases e
   ·cases e
  have fG:∀cl x n,o.op=.call cl→cl.callee≠.invoke x n:=λcl x n h1 h2=>hi ⟨cl,x,n,h1,h2⟩;obtain⟨m',D',w',cu,ex,re,hd⟩:=Ir (o:=o) A6 fG hr R e;rcases cu with cu |⟨cu,Ew⟩
  ·rw[cu];exact hn m' D' w' ex re hd
  ·rw[cu];have:=hn m' D' w' ex re hd;rw[Ew,O9]at this;exact this
end Go.Ae
namespace Go.Ae
open Go
variable {P:Program} {m:Mp} {D:Nat→Prop} {h h':AH} {w:World} {c:CV} {o:Oper} {v:AV}
structure dO (m:Mp) (D:Nat→Prop) (n:Nat) (a:Act) (tm:PT AV):Prop where
  size:n≤a.tmps.size
  at_:∀t v,tm.get t=some v→a.tmps[t]? =some (cv m v)∧bm D v
theorem dO.ev {n:Nat} {a:Act} {tm:PT AV} (T:dO m D n a tm):dr m D a.eval (ev tm):=by
 intro x v e;cases x with
 |tmp t=>simp only[Ae.ev]at e;obtain⟨h1,h2⟩:=T.at_ t v e;refine⟨?_,h2⟩;simp only[Act.eval,Array.getD_eq_getD_getElem?,h1,Option.getD_some]
 |const k=>simp only[Ae.ev]at e;obtain⟨h1,h2⟩:=QD (m:=m) (D:=D) e;exact⟨h1.symm,h2⟩
 |global g=>simp only[Ae.ev,reduceCtorEq]at e
 |func f=>simp only[Ae.ev,Option.some.injEq]at e;subst e;exact⟨by simp[Act.eval,cv,aT],trivial,trivial⟩
theorem dO.mono {m':Mp} {D':Nat→Prop} {w':World} {n:Nat} {a:Act} {tm:PT AV} (T:dO m D n a tm) (e:Ext m D h w m' D' h' w'):dO m' D' n a tm :=
 ⟨T.size,λt v hv=>by
  obtain⟨h1,h2⟩:=T.at_ t v hv
  exact⟨by rw[e.cv h2];exact h1,e.bm h2⟩⟩
theorem dO.put {n:Nat} {a:Act} {tm:PT AV} (T:dO m D n a tm) {dst:Option Tmp} {k:PT AV→R} {r:AV×AH} (hv:bm D v) (e:UF n tm dst v k=some r) :
  ∃tm',k tm'=some r∧dO m D n (a.put dst (cv m v)) tm':=by
 cases dst with
 |none=>exact⟨tm,e,T⟩
 |some d=>
  simp only[UF,jO]at e;obtain⟨hd,e⟩:=e;have hd:=jf hd;refine⟨_,e,by simp[Act.put];exact T.size,?_⟩;intro t u hu;rw[PT.bE]at hu;by_cases ht:d=t
  ·subst ht;rw[iJ rfl]at hu;cases hu;refine⟨?_,hv⟩;have:=T.size;simp[Act.put,Array.getElem?_setIfInBounds_self];omega
  ·rw[iQ ht]at hu;obtain⟨h1,h2⟩:=T.at_ t u hu;exact⟨by simp[Act.put,Array.getElem?_setIfInBounds_ne ht];exact h1,h2⟩
theorem gS (a:Act) (dst:Option Tmp) (x:Value):(a.put dst x).defers=a.defers:=by cases dst<;>rfl
structure O4 (P:Program) (m:Mp) (D:Nat→Prop) (h:AH) (w:World) (n:Nat) (ds:List Deferred) (a:Act) (tm:PT AV) (m':Mp) (D':Nat→Prop) (h':AH) (w':World):Prop where
  ext:Ext m D h w m' D' h' w'
  rel:Rel P m' D' h' w'
  tm:dO m' D' n a tm
  defers:a.defers=ds
theorem GH {ops:Array Oper} {a:Act} {dst:Option Tmp} {x:Value} {g:Nat} {p:Oper} {d:Tmp} (hp:ops[g]? =some p) (hd:p.dst=some d) (cx:dst≠some d) :
  yielded ops (a.put dst x).tmps g=yielded ops a.tmps g:=by
 unfold yielded;simp only[hp,Option.bind_some,hd];cases dst with
 |none=>rfl
 |some t=>have:t≠d:=λe=>cx (by rw[e]);simp[Act.put,Array.getElem?_setIfInBounds_ne this]
theorem J7 {d:Nat} {l:List Oper} (hw:writes d l=false):∀o∈l,o.dst≠some d:=by
 induction l with
 |nil=>intro o ho;cases ho
 |cons x l ih=>
  simp only[writes,Bool.or_eq_false_iff]at hw;intro o ho;rcases List.mem_cons.1 ho with rfl |ho
  ·intro e;rw[e]at hw;exact yb hw.1 rfl
  ·exact ih hw.2 o ho
end Go.Ae
