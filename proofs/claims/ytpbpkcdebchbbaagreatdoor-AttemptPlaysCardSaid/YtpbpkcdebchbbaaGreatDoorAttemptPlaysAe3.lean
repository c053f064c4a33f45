/- The abstract executor of the program's form in Lean, shown sound: new blocks, cuts, appends, copies, conversions, ranges; every operation; calls. -/
import Derived.Test.YtpbpkcdebchbbaaGreatDoorAttemptPlaysAe2
import Derived.Laws.BytesString
namespace Go.Ae
open Go
variable {P:Program} {m:Mp} {D:Nat→Prop} {h h':AH} {w:World} {c:CV} {ρ:Operand→Value} {r:Operand→Option AV} {o:Oper} {v:AV}
theorem Lu (R:Rel P m D h w) {s:Sem Value} {b:cK} {TC:Obj} {room:Nat} {z:AV} {w0:World}
  (hs:s.run P w=.ok (cv (λx=>if x=h.nx then(w.heap.size,room)else m x) z) w0)
  (Ao:w0.heap=w.heap.push TC) (ug:w0.os=w.os) (iS:w0.tape=w.tape) (fw:w0.output=w.output)
  (hb:cA D b) (hbr:cW P m b (w.heap.size,room) w0) (hz:bp (λx=>x=h.nx∨D x) z) (iz:∀t,b≠.cO t:=by intro t hh;cases hh) :
  ep P m D h w ((do pure (Next.value (← s)):Sem Next).run P w) z (h.new b):=by
 obtain⟨e,r'⟩:=R.new b TC room Ao ug iS fw hb hbr iz;exact⟨_,_,w0,.inl (by simp_all),e,r',hz⟩
theorem Qy (t:TypeId) (cs:Array Value):(newRow t cs).run P w=.ok ⟨w.heap.size,0,none⟩ { w with heap:=w.heap.push (.cells cs t) }:=rfl
theorem zT {ct:CT} {cs:List AV} {t:TypeId} (Lv:ct.toList=cs) (w0:World) (Ao:w0.heap=w.heap.push (.cells (aQ m cs).toArray t)):cW P m (.cells ct t false) (w.heap.size,0) w0:=by refine⟨[],(0,0),?_,λ_=>rfl,λi _=>by simp,λh=>by grind⟩;grind
theorem TD (R:Rel P m D h w) {x z:AV} {t:TypeId} (hx:bp D x) (e:vQ h t x fin=some (z,h')) :
  ep P m D h w ((do pure (Next.value (← (do pure (.pointer (some (← newVar t (cv m x)))):Sem Value))):Sem Next).run P w) z h':=by
 unfold vQ at e;simp only[jO,jZ]at e;obtain⟨_,rfl,rfl⟩:=e;refine Lu R (w0:={ w with heap:=w.heap.push (.cells (aQ m x.cells).toArray t) }) (room:=0) ?_ rfl rfl rfl rfl (by grind[cA,CT.aD,kY]) (zT (CT.aD _) _ rfl) (.inl rfl);simp[newVar,wW,Qy,cv]
theorem qYi {t:TypeId} (ho:o.op=.alloc t) (R:Rel P m D h w) (e:bh P c o.op r h fin=some (v,h')):ep P m D h w ((execOp ρ o).run P w) v h':=by
 rw[ho]at e;simp only[bh,qO]at e;obtain⟨z,hz,e⟩:=e;obtain⟨z1,z2⟩:=vM (w:=w) (m:=m) (D:=D) hz;have:=TD R z2 e;simp_all[execOp,Instr.alloc,pure,newVar]
theorem qyb {t:TypeId} {x:Operand} (ho:o.op=.box t x) (hr:eP m D ρ r) (R:Rel P m D h w) (e:bh P c o.op r h fin=some (v,h')):ep P m D h w ((execOp ρ o).run P w) v h':=by rw[ho]at e;simp only[bh,qO]at e;obtain⟨a,ha,e⟩:=e;obtain⟨a1,a2⟩:=hr _ _ ha;have:=TD R a2 e;simp only[execOp,ho,a1];trivial
theorem Je {cl:Call} {b:Builtin} (ho:o.op=.call cl) (hc:cl.callee=.builtin b) :
  ∃cs,(execOp ρ o).run P w=(builtin b cl.argTypes o.type cs (cl.args.map ρ)).run P w:=by
 refine⟨cl.args.map fun | .const _=>true |_=>false,?_⟩;simp only[execOp,ho];have h1:(resolve ρ cl o.type).run P w=.ok { target:=.builtin b cl.argTypes o.type (cl.args.map fun | .const _=>true |_=>false),args:=cl.args.map ρ } w:=by unfold resolve;rw[hc];rfl
 rw[qq h1];rfl
theorem Q5 {α:Type} {a:Array α} {l:List α} (h:a.toList=l):a=l.toArray:=by grind
theorem qw6 {cl:Call} (ho:o.op=.call cl) (hc:cl.callee=.builtin .len) (hr:eP m D ρ r) (R:Rel P m D h w) (e:bh P c o.op r h fin=some (v,h')):ep P m D h w ((execOp ρ o).run P w) v h':=by
 obtain⟨cs,hx⟩:=Je (P:=P) (w:=w) (ρ:=ρ) ho hc;rw[ho]at e;simp only[bh,hc]at e
 split at e
 ·rename_i x xs t ts ha ht;simp only[qO]at e;obtain⟨a,lS,d,hd,e⟩:=e;obtain⟨a1,a2⟩:=hr _ _ lS;rw[hx,Q5 ha,Q5 ht]
  have cQ:∀z,(∀u,P.underlying t=some u→(match u,cv m a with
    | .string,.string s=>(pure (goInt s.size):Sem Value)
    | .array n _,_=>pure (goInt n)
    | .pointer arr,_=>do
     let .array n _ ← underlying arr | stuck "len: pointer to array expected"
     pure (goInt n)
    | .slice _,.slice _ n _=>pure (goInt n)
    | .map _ _,.map none | .chan _ _,.chan none=>pure (goInt 0)
    | .map _ _,.map (some r)=>do
     let .map entries _ ← getObj r | stuck "len: map expected"
     pure (goInt entries.size)
    | .chan _ _,.chan (some r)=>do
     let .chan _ buf _ _ _ timer ← getObj r | stuck "len: channel expected"
     pure (goInt (if timer then 0 else buf.size))
    | _, _ => stuck "len: string, array, pointer to array, slice, map or channel expected").run P w = .ok z w) →
    (Builtin.len_ (t::ts).toArray o.type ((x::xs).toArray.map ρ)).run P w=.ok z w:=by
   intro z hz;unfold Builtin.len_;simp only[List.getElem?_toArray,List.getElem?_cons_zero,List.map_toArray,List.map_cons,a1];rw[qq (Ae.run_underlying hd)];grind
  have pQ:∀n:Nat,v=.int .i64 (.ofNat n)→h=h'→(Builtin.len_ (t::ts).toArray o.type ((x::xs).toArray.map ρ)).run P w=.ok (goInt n) w→
    ep P m D h w ((builtin .len (t::ts).toArray o.type cs ((x::xs).toArray.map ρ)).run P w) v h':=by
   rintro n rfl rfl hl;exact zB R hl trivial
  cases d<;>simp only[reduceCtorEq]at e
  case string=>
   unfold Q7 at e
   split at e
   ·rename_i q;simp only[jZ]at e;obtain⟨rfl,rfl⟩:=e;refine pQ _ rfl rfl (cQ _ λu hu=>?_);rw[hd]at hu;cases hu;rfl
   grind
  case array n el=>simp only[jZ]at e;obtain⟨rfl,rfl⟩:=e;simp_all
  case slice el=>
   unfold xi at e
   split at e
   ·simp only[jZ]at e;obtain⟨rfl,rfl⟩:=e;refine pQ _ rfl rfl (cQ _ λu hu=>?_);rw[hd]at hu;cases hu;rfl
   ·simp only[jZ]at e;obtain⟨rfl,rfl⟩:=e;refine pQ 0 rfl rfl (cQ _ λu hu=>?_);rw[hd]at hu;cases hu;rfl
   ·simp only[jZ]at e;obtain⟨rfl,rfl⟩:=e;refine pQ 0 rfl rfl (cQ _ λu hu=>?_);rw[hd]at hu;cases hu;rfl
   ·simp only[jZ]at e;obtain⟨rfl,rfl⟩:=e;refine pQ 0 rfl rfl (cQ _ λu hu=>?_);rw[hd]at hu;cases hu;rfl
   grind
 grind
theorem qvf {mx:Bool} {a b z:AV} (e:D4 mx a b=some z):((match mx with |true=>Builtin.max2 |false=>Builtin.min2) (cv m a) (cv m b)).run P w=.ok (cv m z) w∧VV z=true:=by
 unfold D4 at e
 split at e
 ·rename_i k x k' y;rw[jO]at e;obtain⟨hk,e⟩:=e;have hk:k=k':=by grind
  subst hk;simp only[Option.some.injEq]at e;subst e;cases mx
  ·simp only[cond_false,Un,cv];refine⟨?_,rfl⟩;simp[Builtin.min2]
  ·simp only[cond_true,Un,cv];refine⟨?_,rfl⟩;simp[Builtin.max2]
 grind
theorem qkR {mx:Bool} {l:List AV} {a z:AV} (ha:VV a=true) (e:Bk mx a l=some z) :
  ((aQ m l).foldlM (match mx with |true=>Builtin.max2 |false=>Builtin.min2) (cv m a)).run P w=.ok (cv m z) w∧VV z=true:=by
 induction l generalizing a with
 |nil=>simp[Bk]at e;subst e;trivial
 |cons b l ih=>simp only[Bk,Option.bind_eq_some_iff]at e;obtain⟨y,hy,e⟩:=e;obtain⟨y1,y2⟩:=qvf (P:=P) (m:=m) (w:=w) hy;obtain⟨z1,z2⟩:=ih y2 e;simp_all[aQ,List.foldlM_cons]
theorem TE {cl:Call} {mx:Bool} (ho:o.op=.call cl) (hc:cl.callee=.builtin (match mx with |true=>.max |false=>.min)) (hr:eP m D ρ r) (R:Rel P m D h w) (e:bh P c o.op r h fin=some (v,h')):ep P m D h w ((execOp ρ o).run P w) v h':=by
 obtain⟨cs,hx⟩:=Je (P:=P) (w:=w) (ρ:=ρ) ho hc;rw[ho]at e;have e':(ob (ww r cl.args.toList) λl=>oR mx l λz=>fin z h)=some (v,h'):=by
  grind
 simp only[qO]at e';obtain⟨l,hl,e⟩:=e';obtain⟨l1,l2⟩:=QP hr hl;unfold oR at e
 split at e
 ·rename_i a q;simp only[jO,qO,jZ]at e;obtain⟨hi,z,hz,rfl,rfl⟩:=e;obtain⟨z1,z2⟩:=qkR (P:=P) (m:=m) (w:=w) hi hz;have hv:bp D z:=by cases z<;>simp[VV]at z2;trivial
  rw[hx];have iU:(cl.args.map ρ).toList=cv m a::aQ m q:=by rw[Array.toList_map,l1];rfl
  cases mx
  ·refine zB R (s:=Builtin.min_ cl.argTypes o.type (cl.args.map ρ)) ?_ hv;grind[Builtin.min_]
  ·refine zB R (s:=Builtin.max_ cl.argTypes o.type (cl.args.map ρ)) ?_ hv;grind[Builtin.max_]
 grind
end Go.Ae
namespace Go.Ae
open Go
variable {P:Program} {m:Mp} {D:Nat→Prop} {h h':AH} {w:World} {c:CV} {ρ:Operand→Value} {r:Operand→Option AV} {o:Oper} {v:AV}
theorem G7 {x:AV} {y n:Nat} {code:BoundsCode} (e:N6 x y=some n):(Instr.sliceBound (cv m x) y code).run P w=.ok n w∧n≤y:=by
 unfold N6 at e
 split at e
 ·rename_i k q;rw[jO]at e;obtain⟨hq,e⟩:=e;have hq:=zA hq;simp_all[Option.some.injEq,Instr.sliceBound,cv,asIntOf]
 grind
theorem JR {isS:Bool} {len cap u l:Nat} {lo hi:Option AV} (hu:vO hi cap len=some u) (hl:vO lo u 0=some l) :
  (Instr.sliceBounds isS len cap (lo.map (cv m)) (hi.map (cv m)) none).run P w=.ok (l,u,cap) w∧(hi=none∨u≤cap)∧(l≤u)∧(hi=none→u=len):=by
 unfold Instr.sliceBounds;have h1:((pure cap:Sem Nat)).run P w=.ok cap w:=rfl;rw[qq h1];cases hi with
 |none=>
  simp only[vO,Option.some.injEq]at hu;subst hu;simp only[Option.map_none];rw[qq (show(pure len:Sem Nat).run P w=.ok len w from rfl)];cases lo with
  |none=>simp only[vO,Option.some.injEq]at hl;simp;omega
  |some x=>obtain⟨h2,h3⟩:=G7 (P:=P) (m:=m) (w:=w) (code:=.sliceB) hl;simp_all
 |some y=>
  simp only[Option.map_some];obtain⟨h4,h5⟩:=G7 (P:=P) (m:=m) (w:=w) (code:=if isS then .sliceAcap else .sliceAlen) hu;rw[qq h4];cases lo with
  |none=>simp only[vO,Option.some.injEq]at hl;simp;omega
  |some x=>obtain⟨h2,h3⟩:=G7 (P:=P) (m:=m) (w:=w) (code:=.sliceB) hl;simp_all
theorem TF (hr:eP m D ρ r) {x:Option Operand} {y:Option AV} (e:Yh r x=some y):x.map ρ=y.map (cv m):=by
 cases x with
 |none=>grind[Yh]
 |some x=>simp only[Yh,Option.map_eq_some_iff]at e;obtain⟨a,ha,rfl⟩:=e;simp[(hr _ _ ha).1]
theorem qjN {t:TypeId} {x:Operand} {lo hi mx:Option Operand} (ho:o.op=.slice t x lo hi mx) (hr:eP m D ρ r) (R:Rel P m D h w) (e:bh P c o.op r h fin=some (v,h')):ep P m D h w ((execOp ρ o).run P w) v h':=by
 rw[ho]at e;cases mx<;>simp only[bh,reduceCtorEq]at e
 simp only[qO]at e;obtain⟨a,ha,Ip,dJ,oW,iC,d,hd,e⟩:=e;obtain⟨a1,a2⟩:=hr _ _ ha;simp only[execOp,ho,a1,TF hr dJ,TF hr iC,Option.map_none];cases d<;>simp only[reduceCtorEq]at e
 case string=>
  unfold gL at e
  split at e
  ·rename_i s;simp only[qO,jZ]at e;obtain⟨u,hu,l,hl,t',ht,rfl,rfl⟩:=e;obtain⟨b1,_,b2,_⟩:=JR (P:=P) (m:=m) (w:=w) (isS:=false) hu hl;refine zB R ?_ trivial;unfold Instr.sliceAt;rw[qq (Ae.run_underlying hd)];simp only[];unfold Instr.slice;rw[qq (Ae.run_underlying hd)];simp only[cv,Option.isSome_none,Bool.false_eq_true,if_false];have hs:(ByteArray.mk s.toArray).size=s.length:=by rfl
   rw[hs];rw[qq b1];simp only[gF]
   congr 2
   rw[kP]at ht;obtain⟨t1,t2⟩:=kj ht;subst t1;apply ByteArray.ext;simp
  grind
 case slice el=>
  simp only[qO]at e;obtain⟨sz,bC,e⟩:=e;have main:∀(A:Option Addr) (len cap u l:Nat) (z:AV),cv m a=.slice A len cap→vO oW cap len=some u→vO Ip u 0=some l→bp D z→
    cv m z=.slice (if cap=l then A else A.map (·.add (l*sz))) (u-l) (cap-l)→ep P m D h w ((do pure (Next.value (← Instr.sliceAt t (cv m a) (Ip.map (cv m)) (oW.map (cv m)) none)):Sem Next).run P w) z h:=by
   intro A len cap u l z hca hu hl hz hcz;obtain⟨b1,_,b2,_⟩:=JR (P:=P) (m:=m) (w:=w) (isS:=true) (len:=len) hu hl;refine zB R ?_ hz;unfold Instr.sliceAt;rw[qq (Ae.run_underlying hd)];simp_all[Instr.slice,Ae.run_underlying,Ae.run_sizeOf]
  unfold yX at e
  split at e
  ·rename_i b off len cap;simp only[qO,jZ]at e;obtain⟨u,hu,l,hl,rfl,rfl⟩:=e;refine main _ len cap u l _ rfl hu hl a2 ?_;simp only[cv];cases dz:Nat.beq cap l
   all_goals simp_all[vT,cond_false,Option.map_some,w9]
  ·rename_i b off len i0;simp only[jO,qO]at e;obtain⟨hf,u,hu,l,hl,e⟩:=e;unfold vL at hf
   split at hf
   ·rename_i cs el' hg;simp only[Bool.and_eq_true]at hf;obtain⟨f0,f1,f2,f3⟩:=hf;have f0:=zy f0;have f1:=zA f1;have f2:=zy f2;have f3:=zA f3;subst f0;obtain⟨rest,fr,h1,h2,h3,h4,h5⟩:=R.cells a2 hg;obtain⟨h4a,h4b⟩:=h4 rfl sz bC;rw[CT.dD]at f3;have En:i0+len≤(m b).2:=by
     have:(i0+len)*sz≤(m b).2*sz:=by grind
     exact Nat.le_of_mul_le_mul_right this f1
    have Dc:vO oW ((m b).2-i0) len=some u:=by
     cases oW with
     |none=>exact hu
     |some y=>
      simp only[vO,N6]at hu ⊢
      split at hu
      ·rename_i k q;rw[jO]at hu ⊢;simp at*;omega
      grind
    have hule:u≤len:=by
     cases oW with
     |none=>grind[vO,Option.some.injEq]
     |some y=>
      simp only[vO,N6]at hu
      split at hu
      ·rw[jO]at hu;simp at*;omega
      grind
    cases iD:Nat.beq l 0
    ·have Eo:=vT iD;rw[iD]at e;simp only[cond_false]at e;cases r9:Nat.ble (l+1) len
     ·rw[r9]at e;simp only[cond_false,jZ]at e;obtain⟨rfl,rfl⟩:=e;have r9:¬l+1≤len:=λh=>by simp_all[iY]
      obtain⟨_,_,q1,_⟩:=JR (P:=P) (m:=m) (w:=w) (isS:=true) (len:=len) Dc hl;refine main _ len _ u l _ rfl Dc hl a2 ?_;simp only[cv];have e1:u-l=0:=by omega
      rw[e1];by_cases hc:(m b).2=i0+l
      ·simp_all
      ·rw[iQ hc,iQ omQ];simp[Option.map_some,w9];omega
     rw[r9]at e;simp only[cond_true,jZ]at e;obtain⟨rfl,rfl⟩:=e;have r9:=zA r9;refine main _ len _ u l _ rfl Dc hl a2 ?_;simp[cv,omQ,Option.map_some,w9];omega
    ·have Eo:=zy iD;subst Eo;rw[iD]at e;simp only[cond_true,jZ]at e;obtain⟨rfl,rfl⟩:=e;refine main _ len _ u 0 _ rfl Dc hl a2 ?_;simp[cv,Addr.add]
   grind
  ·simp only[qO,jZ]at e;obtain⟨u,hu,l,hl,rfl,rfl⟩:=e;have Lw:u=0:=by
    cases oW with
    |none=>grind[vO,Option.some.injEq]
    |some y=>
     simp only[vO,N6]at hu
     split at hu
     ·rw[jO]at hu;simp at*;omega
     grind
   subst Lw;have iD:l=0:=by
    cases Ip with
    |none=>grind[vO,Option.some.injEq]
    |some y=>
     simp only[vO,N6]at hl
     split at hl
     ·rw[jO]at hl;simp at*;omega
     grind
   subst iD;refine main none 0 0 0 0 .ad rfl hu hl trivial ?_;rfl
  ·simp only[qO,jZ]at e;obtain⟨u,hu,l,hl,rfl,rfl⟩:=e;have Lw:u=0:=by
    cases oW with
    |none=>grind[vO,Option.some.injEq]
    |some y=>
     simp only[vO,N6]at hu
     split at hu
     ·rw[jO]at hu;simp at*;omega
     grind
   subst Lw;have iD:l=0:=by
    cases Ip with
    |none=>grind[vO,Option.some.injEq]
    |some y=>
     simp only[vO,N6]at hl
     split at hl
     ·rw[jO]at hl;simp at*;omega
     grind
   subst iD;refine main _ 0 0 0 0 (.bX _) rfl hu hl trivial ?_;rfl
  grind
 case array n el=>
  simp only[qO]at e;obtain⟨sz,bC,e⟩:=e;unfold gT at e
  split at e
  ·rename_i b off;simp only[qO,jZ]at e;obtain⟨u,hu,l,hl,rfl,rfl⟩:=e;obtain⟨b1,_,b2,_⟩:=JR (P:=P) (m:=m) (w:=w) (isS:=false) (len:=n) hu hl;refine zB R ?_ a2;unfold Instr.sliceAt;rw[qq (Ae.run_underlying hd)];simp only[cv];rw[qq (show(Instr.sureAddr (.pointer (some ⟨(m b).1,off,none⟩))).run P w=.ok ⟨(m b).1,off,none⟩ w from rfl)];rw[qq b1];simp only[];rw[qq (Ae.run_sizeOf bC)];cases dz:Nat.beq n l
   all_goals simp_all[vT,cond_false,w9,zy]
  grind
end Go.Ae
namespace Go.Ae
open Go
variable {P:Program} {m:Mp} {D:Nat→Prop} {h h':AH} {w:World} {c:CV} {ρ:Operand→Value} {r:Operand→Option AV} {o:Oper} {v:AV}
theorem qVo:∀(vs:List Value) (C:List Value) (off i:Nat),off+i+vs.length≤C.length→
  (vs.zipIdx i).foldl (λcs (p:Value×Nat)=>cs.setIfInBounds (off+p.2) p.1) C.toArray=(C.take (off+i)++vs++C.drop (off+i+vs.length)).toArray:=by
 intro vs
 induction vs with
 |nil=>simp
 |cons v vs ih=>
  intro C off i h;simp only[List.length_cons]at h;simp only[List.zipIdx_cons,List.foldl_cons];have e0:C.toArray.setIfInBounds (off+i) v=(C.set (off+i) v).toArray:=by simp
  rw[e0,ih _ off (i+1) (by grind)]
  congr 1
  have e1:(C.set (off+i) v).take (off+(i+1))=C.take (off+i)++[v]:=by grind[List.take_succ_eq_append_getElem,List.take_set_of_le]
  have e2:(C.set (off+i) v).drop (off+(i+1)+vs.length)=C.drop (off+i+(v::vs).length):=by
   rw[List.drop_set_of_lt omQ]
   grind
  grind
theorem Vm (hr:eP m D ρ r) {pl:Nat→Option (Nat×Nat)} {l:List (Nat×Operand)} {vs:List (Nat×Nat×AV)} (e:yH pl r l=some vs) :
  ∀{z cs:List AV},vG z vs=some cs→aT D z→Instr.fill pl (aQ m z).toArray (l.map λp=>(p.1,ρ p.2))=some (aQ m cs).toArray∧aT D cs:=by
 induction l generalizing vs with
 |nil=>intro z cs e2 hz;simp[yH]at e;subst e;simp[vG]at e2;subst e2;trivial
 |cons p l ih=>
  obtain⟨i,x⟩:=p;intro z cs e2 hz;simp only[yH,Option.bind_eq_some_iff,Option.map_eq_some_iff]at e;obtain⟨q,hq,a,ha,s,hs,rfl⟩:=e;obtain⟨a1,a2⟩:=hr _ _ ha;simp only[vG,jO,Option.bind_eq_some_iff]at e2;obtain⟨hl,z',hz',e2⟩:=e2;have hl:=zy hl;obtain⟨e3,e4⟩:=KP hz';have tM:aT D z':=by grind[vp,JY,kY,YW]
  obtain⟨f1,f2⟩:=ih hs e2 tM;refine⟨?_,f2⟩;simp only[List.map_cons,Instr.fill,hq];have bC:(ρ x).cells.size=q.2:=by simp_all[wW]
  have dA:(decide ((ρ x).cells.size≠q.2)||decide (q.1+(ρ x).cells.size>(aQ m z).toArray.size))=false:=by simp_all
  simp only[dA,Bool.false_eq_true,if_false];rw[← f1]
  congr 1
  rw[a1,wW,← Array.foldl_toList];simp_all[qVo,xW]
theorem qQr {fs:List Field} {pl:List (Nat×Nat)} (e:kN P fs=some pl):(fs.mapM λf=>(do pure (f.offset,← sizeOf f.type):Sem (Nat×Nat))).run P w=.ok pl w:=by
 induction fs generalizing pl with
 |nil=>simp_all[kN,ww]
 |cons f fs ih=>simp only[kN,ww,Option.bind_eq_some_iff,Option.map_eq_some_iff]at e;obtain⟨q,⟨n,hn,rfl⟩,t,ht,he⟩:=e;cases he;rw[List.mapM_cons];rw[qq (show(do pure (f.offset,← sizeOf f.type):Sem (Nat×Nat)).run P w=.ok (f.offset,n) w from by simp_all[Ae.run_sizeOf])];rw[qq (ih ht)];rfl
theorem qZL {fs:Array Field} {pl:List (Nat×Nat)} (e:kN P fs.toList=some pl):(fs.mapM λf=>(do pure (f.offset,← sizeOf f.type):Sem (Nat×Nat))).run P w=.ok pl.toArray w:=by rw[Array.mapM_eq_mapM_toList];show((fs.toList.mapM λf=>(do pure (f.offset,← sizeOf f.type):Sem (Nat×Nat)))>>=λl=>pure l.toArray).run P w=_;rw[qq (qQr e)];rfl
theorem qY3 {t:TypeId} {parts:Array (Nat×Operand)} (ho:o.op=.build t parts) (hr:eP m D ρ r) (R:Rel P m D h w) (e:bh P c o.op r h fin=some (v,h')):ep P m D h w ((execOp ρ o).run P w) v h':=by
 rw[ho]at e;simp only[bh,qO]at e;obtain⟨z,hz,d,hd,e⟩:=e;obtain⟨z1,z2⟩:=vM (w:=w) (m:=m) (D:=D) hz;simp only[execOp,ho];cases d<;>simp only[reduceCtorEq]at e
 case struct fs=>
  simp only[qO]at e;obtain⟨pl,sa,vs,sc,e⟩:=e;unfold jf at e;simp only[qO,jZ]at e;obtain⟨cs,oX,rfl,rfl⟩:=e;have hp1:=qZL (w:=w) sa;have Bu:yH (pl.toArray[·]?) r parts.toList=some vs:=by
   grind[wm,xr]
  obtain⟨f1,f2⟩:=Vm hr Bu oX (kY z2);refine zB R ?_ f2;unfold Instr.build;rw[qq z1];rw[qq (Ae.run_underlying hd)];simp only[];rw[qq hp1,wW];have fT:(parts.map λ(p:Nat×Operand)=>(p.1,ρ p.2)).toList=parts.toList.map λp=>(p.1,ρ p.2):=by simp
  rw[fT,f1];rfl
 case array n el=>
  simp only[qO]at e;obtain⟨sz,bC,vs,sc,e⟩:=e;unfold jf at e;simp only[qO,jZ]at e;obtain⟨cs,oX,rfl,rfl⟩:=e;obtain⟨f1,f2⟩:=Vm hr sc oX (kY z2);refine zB R ?_ f2;unfold Instr.build;rw[qq z1];rw[qq (Ae.run_underlying hd)];simp only[];rw[qq (Ae.run_sizeOf bC),wW];have fT:(parts.map λ(p:Nat×Operand)=>(p.1,ρ p.2)).toList=parts.toList.map λp=>(p.1,ρ p.2):=by simp
  rw[fT,f1];rfl
theorem XY {t:TypeId} {z:List AV} (e:Kj P t=some z):∃i za,P.info? t=some i∧fo P t=some za∧z=za.cells∧z.length=i.size∧jV z=true∧i.bytes≤65536∧aM P t=some z.length:=by unfold Kj at e;simp only[Option.bind_eq_some_iff,jO,Bool.and_eq_true,Option.some.injEq]at e;obtain⟨i,hi,za,hz,⟨h1,h2,h3⟩,rfl⟩:=e;have h1:=zy h1;exact⟨i,za,hi,hz,rfl,h1,h2,zA h3,by grind[aM]⟩
theorem vI {α:Type} (l:List α) (n:Nat):(gA l n).length=n*l.length:=by
 induction n with
 |zero=>simp[gA]
 |succ n ih=>grind[gA,Nat.succ_mul]
theorem NK {l:List AV} (hl:aT D l) (n:Nat):aT D (gA l n):=by
 induction n with
 |zero=>trivial
 |succ n ih=>exact vp.2 ⟨hl,ih⟩
theorem qq4 {α:Type} [Inhabited α] (l:List α) (n i:Nat) (hi:i<n*l.length):(gA l n)[i]? =some (l.toArray[i%l.toArray.size]!):=by
 induction n generalizing i with
 |zero=>grind
 |succ n ih=>
  have Bv:0<l.length:=by
   grind
  simp only[gA];by_cases ae:i<l.length
  ·grind[List.getElem?_append_left,List.size_toArray,Nat.mod_eq_of_lt]
  ·rw[List.getElem?_append_right omQ,ih (i-l.length) (by grind)]
   congr 2
   simp only[List.size_toArray]
   conv=>rhs;rw[show i=(i-l.length)+l.length from by omega,Nat.add_mod_right]
theorem ZX (z:List AV) (n:Nat) (m:Mp):((Array.range (n*z.length)).map λi=>(aQ m z).toArray[i%(aQ m z).toArray.size]!)=(aQ m (gA z n)).toArray:=by
 apply Array.ext
 ·simp[vI]
 ·intro i h1 h2;have hi:i<n*z.length:=by grind
  have hg:=qq4 (aQ m z) n i (by simp_all);have hr:gA (aQ m z) n=aQ m (gA z n):=by
   clear hg h1 h2 hi
   induction n with
   |zero=>rfl
   |succ n ih=>grind[gA,Xp]
  grind
theorem TG {α:Type} (f:Nat→α):(Array.range 0).map f= #[]:=by simp
theorem qGf {t:TypeId} {len:Nat} {parts:Array (Nat×Operand)} (ho:o.op=.buildSlice t len parts) (hr:eP m D ρ r) (R:Rel P m D h w) (e:bh P c o.op r h fin=some (v,h')):ep P m D h w ((execOp ρ o).run P w) v h':=by
 rw[ho]at e;simp only[bh,qO]at e;obtain⟨d,hd,e⟩:=e;cases d<;>simp only[reduceCtorEq]at e
 rename_i el;simp only[qO,xm]at e;obtain⟨z,hz,hlen,vs,sc,e⟩:=e;have hlen:=zA hlen;obtain⟨i,za,hi,Bw,rfl,Bx,pP,Iq,bC⟩:=XY hz;unfold zR at e;simp only[qO,jO,jZ]at e;obtain⟨cs,oX,TH,rfl,rfl⟩:=e;obtain⟨z1,z2⟩:=vM (w:=w) (m:=m) (D:=D) Bw;obtain⟨f1,f2⟩:=Vm hr sc oX (NK (kY z2) len);simp only[execOp,ho];refine Lu R (w0:={ w with heap:=w.heap.push (.cells (aQ m cs).toArray el) }) (room:=0) ?_ rfl rfl rfl rfl (by grind[cA,CT.aD]) (zT (CT.aD _) _ rfl) (.inl rfl);unfold Instr.buildSlice;rw[qq (Ae.run_underlying hd)];simp only[];rw[qq (Ae.run_sizeOf bC)];have dA:¬(len*za.cells.length>2 ^ 24):=by omega
 simp only[dA,if_false];have fT:(parts.map λ(p:Nat×Operand)=>(p.1,ρ p.2)).toList=parts.toList.map λp=>(p.1,ρ p.2):=by simp
 have zs:=ZX za.cells len m;have z0:(aQ m za.cells).toArray.size=za.cells.length:=by simp
 have last:∀cells,Instr.fill (λi=>some (i*za.cells.length,za.cells.length)) cells (parts.map λ(x:Nat×Operand)=>(x.1,ρ x.2)).toList=some (aQ m cs).toArray→
   (match Instr.fill (λi=>some (i*za.cells.length,za.cells.length)) cells (parts.map λ(x:Nat×Operand)=>(x.1,ρ x.2)).toList with
    |some cells=>(do
      let a ← newRow el cells
      pure (Value.slice (some a) len len):Sem Value)
    | _ => stuck "buildSlice: a part of the wrong size").run P w = .ok (cv (fun x => if x = h.nx then (w.heap.size, 0) else m x) (.slice h.nx 0 len len false)) { w with heap := w.heap.push (.cells (aQ m cs).toArray el) } := by
  simp_all[Qy,cv]
 split
 ·grind
 ·rw[qq z1,wW];grind
theorem TI {n:Nat} (h:n≤1073741824):IntKind.i64.wrap (Int.ofNat n)=Int.ofNat n:=by simp[Gt];omega
theorem Kh (n:Nat):(askRoom n).run P w=.ok () w:=by
 simp
theorem qg0 {t:TypeId} {x y:Operand} (ho:o.op=.makeSlice t x y) (hr:eP m D ρ r) (R:Rel P m D h w) (e:bh P c o.op r h fin=some (v,h')):ep P m D h w ((execOp ρ o).run P w) v h':=by
 rw[ho]at e;simp only[bh,qO]at e;obtain⟨d,hd,e⟩:=e;cases d<;>simp only[reduceCtorEq]at e
 rename_i el;simp only[qO]at e;obtain⟨z,hz,a,ha,b,hb,e⟩:=e;obtain⟨a1,a2⟩:=hr _ _ ha;obtain⟨b1,b2⟩:=hr _ _ hb;obtain⟨i,za,hi,Bw,rfl,Bx,pP,Iq,bC⟩:=XY hz;unfold QC at e
 split at e
 ·rename_i k1 ln k2 cp;simp only[jO,jZ,Bool.and_eq_true]at e;obtain⟨⟨h1,h2⟩,rfl,rfl⟩:=e;have h1:=zA h1;have h2:=zA h2;obtain⟨z1,z2⟩:=vM (w:=w) (m:=m) (D:=D) Bw;simp only[execOp,ho,a1,b1];refine Lu R (w0:={ w with heap:=w.heap.push (.cells (aQ m (gA za.cells cp)).toArray el) }) (room:=0) ?_ rfl rfl rfl rfl (by grind[cA,CT.nX,NK,kY]) (zT (CT.nX _ _) _ rfl) (.inl rfl);unfold Instr.makeSlice;rw[qq (Ae.run_underlying hd)];simp only[cv];rw[qq (show(asInt (.int k1 (.ofNat ln))).run P w=.ok (.ofNat ln) w from rfl)];rw[qq (show(asInt (.int k2 (.ofNat cp))).run P w=.ok (.ofNat cp) w from rfl)];rw[qq (Ae.run_typeInfo hi)];simp only[TI (show ln≤1073741824 by omega),TI h2];have fU:i.bytes*cp≤65536*1073741824:=Nat.mul_le_mul Iq h2;have mX:(decide (Int.ofNat cp<0)||decide ((i.bytes:Int)*Int.ofNat cp>2 ^ 48)||decide (Int.ofNat ln<0)||decide (Int.ofNat ln>Int.ofNat cp))=false:=by
   grind
  simp only[mX,Bool.false_eq_true,if_false];rw[qq (Kh _)];rw[qq (Ae.run_sizeOf bC)];simp only[show(Int.ofNat cp).toNat=cp from rfl,show(Int.ofNat ln).toNat=ln from rfl];have zs:=ZX za.cells cp m
  split
  ·rename_i h0;rw[qq (show(pure #[]:Sem (Array Value)).run P w=.ok #[] w from rfl)];have:gA za.cells cp=[]:=iA (by rw[vI,h0]);simp_all[TG,Qy]
  ·rw[qq z1,wW];rw[qq (show(pure (aQ m za.cells).toArray:Sem (Array Value)).run P w=.ok _ w from rfl)];simp_all[Qy]
 grind
end Go.Ae
namespace Go.Ae
open Go
variable {P:Program} {m:Mp} {D:Nat→Prop} {h h':AH} {w:World} {c:CV} {ρ:Operand→Value} {r:Operand→Option AV} {o:Oper} {v:AV}
theorem qGL {x:AV} {n:Nat} (e:KX x=some n):(Builtin.lenOf (cv m x)).run P w=.ok n w:=by
 cases x<;>simp only[KX,reduceCtorEq,Option.some.injEq]at e<;>subst e
 ·rfl
 all_goals rfl
theorem VU (R:Rel P m D h w) {x:AV} {sz n:Nat} {l:List AV} (hx:bp D x) (e:Jh h sz n x=some l) :
  (Builtin.firstCells sz n (cv m x)).run P w=.ok (aQ m l).toArray w∧aT D l:=by
 cases x<;>simp only[Jh,reduceCtorEq]at e
 case str s=>
  simp only[Option.map_eq_some_iff]at e;obtain⟨t,ht,rfl⟩:=e;obtain⟨t1,t2⟩:=kj ht;refine⟨?_,?_⟩
  ·simp only[cv,Builtin.firstCells,gF]
   congr 1
   subst t1;rw[ByteArray.data_extract];simp[xW,List.extract_eq_take_drop];rfl
  ·rw[xh];intro v hv;rw[List.mem_map]at hv;obtain⟨b,_,rfl⟩:=hv;trivial
 case slice b off len cp ay=>obtain⟨h1,h2,_⟩:=R.read hx e;trivial
 case ad=>simp only[Option.some.injEq]at e;subst e;trivial
 case bX a=>simp only[jO,Option.some.injEq]at e;obtain⟨e1,rfl⟩:=e;have e1:=zy e1;subst e1;refine⟨?_,trivial⟩;simp only[cv,Builtin.firstCells,Nat.zero_mul];rfl
 case tail b o o' i1=>simp only[jO,Option.some.injEq]at e;obtain⟨e1,rfl⟩:=e;have e1:=zy e1;subst e1;refine⟨?_,trivial⟩;simp only[cv,Builtin.firstCells,Nat.zero_mul];rfl
def TJ (h:AH) (sz n:Nat) (x:AV) (l:List AV):Prop :=
 Jh h sz n x=some l∨∃b off len cap ay c t o,x=.slice b off len cap ay∧h.get b=some (.cells c t o)∧vE (n*sz) (vh off c.toList)=some l
theorem qzd {h:AH} {sz n:Nat} {x:AV} {nc:CT} (e:Vb h sz n x=some nc):TJ h sz n x nc.toList:=by
 cases x<;>simp only[Vb,reduceCtorEq]at e
 case slice b off len cap ay=>
  split at e
  ·rename_i c t o hg;exact .inr ⟨b,off,len,cap,ay,c,t,o,rfl,hg,CT.Br e⟩
  ·rename_i t hg;simp only[Option.bind_eq_some_iff]at e;obtain⟨l,hl,e⟩:=e;cases e;refine .inl ?_;grind[Jh,vK,CT.aD]
  grind
 case ad=>cases e;exact .inl rfl
 case bX a=>rw[jO]at e;obtain⟨e1,e⟩:=e;cases e;refine .inl ?_;simp only[Jh,e1,cond_true];rfl
 case tail b o o' i1=>rw[jO]at e;obtain⟨e1,e⟩:=e;cases e;refine .inl ?_;simp only[Jh,e1,cond_true];rfl
 case str s=>simp only[Option.bind_eq_some_iff]at e;obtain⟨l,hl,e⟩:=e;cases e;refine .inl ?_;simp_all[Jh,Option.map_some,CT.aD]
theorem qVO (nZ:Nat):∀(rounds c:Nat),c≤2*nZ+1000→Builtin.growBy nZ rounds c≤2*nZ+1000:=by
 intro rounds
 induction rounds with
 |zero=>intro c h;exact h
 |succ n ih=>
  grind[Builtin.growBy]
theorem qx9 {aw cap:Nat} (h:cap<aw):Builtin.nextslicecap aw cap≤2*aw+1000:=by
 unfold Builtin.nextslicecap
 split
 ·omega
 ·split
  ·omega
  ·exact qVO aw 4 cap omQ
theorem qJ4 {t u:TypeId} {ts:List TypeId} {ty:TypeId} {e:TypeId} {du:TypeDesc} {i:TypeInfo} {za:AV} {s x:Value} {base:Option Addr} {dc fz n:Nat} {new:Array Value}
  (ht:P.underlying t=some (.slice e)) (hu:P.underlying u=some du) (Lx:∀k,du≠.int k) (hi:P.info? e=some i) (Bw:fo P e=some za) (hz:za.cells.length=i.size) (hb:i.bytes≤65536)
  (hs:s=.slice base dc fz) (hlen:(Builtin.lenOf x).run P w=.ok n w) (sd:∀W:World,W.heap=w.heap→(Builtin.firstCells i.size n x).run P W=.ok new W) :
  (dc+n≤fz→(Builtin.append_ (t::u::ts).toArray ty [s,x].toArray).run P w=
   (do (match(generalizing:=false) base with |some a=>storeCells (a.add (dc*i.size)) new.toList |none=>pure ());pure (.slice base (dc+n) fz):Sem Value).run P w)∧
  (¬dc+n≤fz→dc+n≤67108864→∀cr:Array Value,(∀W:World,W.heap=w.heap→(Builtin.firstCells i.size dc s).run P W=.ok cr W)→
   ∃(cap:Nat) (rest:Array Value),dc+n≤cap∧rest.size=(cap-(dc+n))*i.size∧
    (Builtin.append_ (t::u::ts).toArray ty [s,x].toArray).run P w=.ok (.slice (some ⟨w.heap.size,0,none⟩) (dc+n) cap) { w with drawn:=w.drawn+1,heap:=w.heap.push (.cells (cr++new++rest) e) }):=by
 subst hs;have bC:aM P e=some i.size:=by grind[aM]
 unfold Builtin.append_;simp only[List.getElem?_toArray,List.getElem?_cons_zero,List.getElem?_cons_succ];rw[qq (Ae.run_underlying ht)];simp only[];rw[qq (Ae.run_sizeOf bC)];rw[qq (Ae.run_underlying hu)];cases du<;>first |(exact absurd rfl (Lx _)) |skip
 all_goals
  rw[qq (show(pure _:Sem Bool).run P w=.ok false w from rfl)];simp only[Bool.false_eq_true,if_false,Bool.not_false,if_true];rw[qq hlen];constructor
  ·intro hle;simp only[iJ hle];rw[qq (sd w rfl)];cases base<;>rfl
  ·intro Ly Lz cr hold;simp only[iQ Ly];rw[qq (Ae.run_typeInfo hi)];have h1:¬(((dc+n:Nat):Int)>IntKind.i64.max∧(False∨i.bytes=0)):=by
    rintro⟨hh,_⟩;have:((dc+n:Nat):Int)>9223372036854775807:=hh;omega
   simp only[iQ h1];rw[qq (Ae.run_typeInfo hi)];have h2:¬(Builtin.nextslicecap (dc+n) fz*i.bytes>2 ^ 48):=by have a1:=qx9 (show fz<dc+n by omega);have a2:Builtin.nextslicecap (dc+n) fz*i.bytes≤134219728*65536:=Nat.mul_le_mul omQ hb;omega
   simp only[iQ h2];refine⟨(Question.appendCap (dc+n) fz e).cut (w.tape w.drawn (.appendCap (dc+n) fz e)),(Builtin.zeroCells (aQ (λ_=>(0,0)) za.cells).toArray ((Question.appendCap (dc+n) fz e).cut (w.tape w.drawn (.appendCap (dc+n) fz e))-(dc+n))),?_,?_,?_⟩
   ·simp only[Question.cut];omega
   ·simp[Builtin.zeroCells,hz]
   ·rw[qq (show(choose (.appendCap (dc+n) fz e)).run P w=.ok _ { w with drawn:=w.drawn+1 }from rfl)];rw[qq (Ae.run_typeInfo hi)];rw[qq (Kh _)];rw[qq (hold { w with drawn:=w.drawn+1 } rfl)];rw[qq (sd { w with drawn:=w.drawn+1 } rfl)];rw[qq (vM (m:=λ_=>(0,0)) (D:=λ_=>True) Bw).1];rw[qq (Qy e _),wW];rfl
theorem Rel.kill (r:Rel P m D h w) (b:Nat) (hb:D b):Ext m D h w m D (h.put b .dead) w∧Rel P m D (h.put b .dead) w:=by
 refine Ext.rel r ?_;have cP:∀b',b'≠b→(h.put b .dead).get b'=h.get b':=λb' hn=>AH.br h .dead (λe=>hn e.symm);have bO:∀b',live (h.put b .dead) b'→live h b':=λb' hl=>by
  by_cases e:b'=b
  ·subst e;obtain⟨x,hx,mY⟩:=hl;rw[AH.aN]at hx;cases hx;trivial
  grind[live]
 refine⟨⟨λ_ h=>h,λ_ _=>rfl,Nat.le_refl _,?_,Nat.le_refl _,?_,rfl,rfl,rfl,λb=>⟨.inl,λhb=>hb.elim id λhb=>by simp at*;omega⟩,?_⟩,⟨?_,?_,?_,?_⟩⟩
 ·intro c hc hn;refine⟨rfl,?_⟩;rintro⟨b',bF,dN,he⟩;exact hn ⟨b',bF,bO b' dN,he⟩
 ·grind
 ·grind[AH.aN]
 ·intro b' bF;by_cases e:b'=b
  ·subst e;exact⟨.dead,AH.aN h b' _,trivial,trivial⟩
  ·obtain⟨y,hy,fQ,fR⟩:=r.bf b' bF;grind
 ·intro b1 b2 h1 h2 l1 l2 he;exact r.inj b1 b2 h1 h2 (bO b1 l1) (bO b2 l2) he
 ·intro b' bF;exact r.lt b' bF
 ·rintro b' t bF hg ⟨b2,eI,l6,he⟩;by_cases e:b'=b
  ·simp_all
  ·rw[cP b' e]at hg;exact r.cO b' t bF hg ⟨b2,eI,bO b2 l6,he⟩
theorem Rel.Ep {w0:World} (r:Rel P m D h w) (b:Nat) (x:cK) (hb:D b) (oU:live h b)
  (Eh:w0.heap.size=w.heap.size) (fh:∀c,c≠(m b).1→w0.heap[c]? =w.heap[c]?) (ug:w0.os=w.os) (iS:w0.tape=w.tape) (fw:w0.output=w.output)
  (hx:cA D x) (mW:cW P m x (m b) w0) (iz:∀t,x≠.cO t:=by intro t hh;cases hh) :
  let m':Mp:=λb'=>if b'=h.nx then m b else m b'
  let D':Nat→Prop:=λb'=>b'=h.nx∨D b'
  Ext m D h w m' D' ((h.put b .dead).new x) w0∧Rel P m' D' ((h.put b .dead).new x) w0:=by
 intro m' D';refine Ext.rel r ?_;have hbn:b≠h.nx:=by have:=r.lt b hb;omega
 have hm:∀b',D b'→m' b'=m b':=λb' bF=>by
  have:=r.lt b' bF;grind
 have ij:m' h.nx=m b:=by grind
 have cP:∀b',D b'→b'≠b→((h.put b .dead).new x).get b'=h.get b':=λb' bF hn=>by
  rw[AH.bL _ x (show(h.put b .dead).nx≠b' by have:=r.lt b' bF;simp;omega),AH.br h .dead (λe=>hn e.symm)]
 have oY:((h.put b .dead).new x).get b=some .dead:=by rw[AH.bL _ x (show(h.put b .dead).nx≠b by simp;omega),AH.aN]
 have Er:¬live ((h.put b .dead).new x) b:=by rintro⟨y,hy,hS⟩;rw[oY]at hy;cases hy;exact hS
 have bO:∀b',D b'→live ((h.put b .dead).new x) b'→live h b'∧b'≠b:=λb' bF hl=>by
  grind[live]
 refine⟨⟨λb' h=>.inr h,hm,by omega,?_,Nat.le_succ _,?_,ug,iS,fw,λb'=>(show b'=h.nx∨D b'↔D b'∨(h.nx≤b'∧b'<h.nx+1)from⟨λhh=>hh.elim (λe=>.inr omQ) .inl,λhh=>hh.elim .inr λe=>.inl omQ⟩),?_⟩,⟨?_,?_,?_,?_⟩⟩
 ·intro c hc hn;have Ir:c≠(m b).1:=λe=>hn ⟨b,hb,oU,e.symm⟩;refine⟨fh c Ir,?_⟩;rintro⟨b',bF,dN,he⟩;rcases bF with rfl |bF
  ·grind
  ·rw[hm b' bF]at he;exact hn ⟨b',bF,(bO b' bF dN).1,he⟩
 ·intro b' bF hn;have bG:b'≠b:=λe=>hn (e▸hb);refine⟨?_,?_⟩
  ·rw[AH.bL _ x (show(h.put b .dead).nx≠b' by simp;omega),AH.br h .dead (λe=>bG e.symm)]
  grind
 ·intro b' t bF hg;rcases bF with rfl |bF
  ·have rQ:((h.put b .dead).new x).get h.nx=some x:=AH.bw (h.put b .dead) x;grind
  grind
 ·intro b' bF;rcases bF with rfl |bF
  ·refine⟨x,AH.bw (h.put b .dead) x,?_,hx.mono λb hb=>.inr hb⟩;rw[ij];exact mW.congr hm hx rfl
  ·by_cases e:b'=b
   ·subst e;exact⟨.dead,oY,trivial,trivial⟩
   ·obtain⟨y,hy,fQ,fR⟩:=r.bf b' bF;refine⟨y,(cP b' bF e).trans hy,?_,fR.mono λb hb=>.inr hb⟩;rw[hm b' bF];cases y with
    |dead=>trivial
    |cO t=>exact fQ.congr hm fR (fh _ λee=>r.cO b' t bF hy ⟨b,hb,oU,ee.symm⟩)
    |_=>exact fQ.congr hm fR (fh _ λee=>e (r.inj b' b bF hb ⟨_,hy,by trivial⟩ oU ee))
 ·intro b1 b2 h1 h2 l1 l2 he;rcases h1 with rfl |h1<;>rcases h2 with rfl |h2
  ·rfl
  ·exfalso;obtain⟨q1,q2⟩:=bO b2 h2 l2;rw[ij,hm b2 h2]at he;exact q2 (r.inj b b2 hb h2 oU q1 he).symm
  ·exfalso;obtain⟨q1,q2⟩:=bO b1 h1 l1;rw[ij,hm b1 h1]at he;exact q2 (r.inj b1 b h1 hb q1 oU he)
  ·rw[hm b1 h1,hm b2 h2]at he;exact r.inj b1 b2 h1 h2 (bO b1 h1 l1).1 (bO b2 h2 l2).1 he
 ·intro b' bF;rcases bF with rfl |bF
  ·simp
  ·have:=r.lt b' bF;simp;omega
 ·rintro b1 t h1 hg ⟨b2,h2,l2,he⟩;rcases h1 with rfl |h1
  ·have rQ:((h.put b .dead).new x).get h.nx=some x:=AH.bw (h.put b .dead) x;grind
  ·by_cases e:b1=b
   ·grind
   ·rw[cP b1 h1 e]at hg;rw[hm b1 h1]at he;rcases h2 with rfl |h2
    ·rw[ij]at he;exact r.cO b1 t h1 hg ⟨b,hb,oU,he⟩
    ·rw[hm b2 h2]at he;exact r.cO b1 t h1 hg ⟨b2,h2,(bO b2 h2 l2).1,he⟩
theorem Rel.heap {W:World} (R:Rel P m D h w) (hW:W.heap=w.heap):Rel P m D h W :=
 ⟨⟨λb hb=>by
  obtain⟨x,hx,hr,hd⟩:=R.bf b hb
  exact⟨x,hx,hr.congr (λ_ _=>rfl) hd (by rw[hW]),hd⟩,R.inj,R.lt,R.cO⟩,λp hp=>by
  obtain⟨g,h1,h2,h3⟩:=R.gl p hp
  exact⟨g,h1,(YT h1 h2).2 (by rw[hW]),h3⟩⟩
theorem LA {ct:CT} {cs:List AV} (Lv:ct.toList=cs) {t:TypeId} {w0:World} {cap n:Nat} {rest:Array Value} (bC:aM P t=some n) (hc:cs.length≤cap*n) (hr:rest.size=cap*n-cs.length)
  (Ao:w0.heap=w.heap.push (.cells ((aQ m cs).toArray++rest) t)):cW P m (.cells ct t true) (w.heap.size,cap) w0:=by
 subst Lv;refine⟨rest.toList,(0,0),?_,(λhh=>by grind),(λi _=>by simp),λ_ k hk=>?_⟩
 all_goals simp_all
theorem U4 (R:Rel P m D h w) {x:AV} {sz n:Nat} {l:List AV} (hx:bp D x) (e:TJ h sz n x l):(Builtin.firstCells sz n (cv m x)).run P w=.ok (aQ m l).toArray w∧aT D l:=by
 rcases e with e |⟨b,off,len,cap,ay,c,t,o,rfl,hg,e⟩
 ·grind[VU]
 ·obtain⟨h1,h2,_⟩:=R.r7 hx hg e;trivial
theorem qG5 {cl:Call} (ho:o.op=.call cl) (hc:cl.callee=.builtin .append) (hr:eP m D ρ r) (R:Rel P m D h w) (e:bh P c o.op r h fin=some (v,h')):ep P m D h w ((execOp ρ o).run P w) v h':=by
 obtain⟨cs,hx⟩:=Je (P:=P) (w:=w) (ρ:=ρ) ho hc;rw[ho]at e;simp only[bh,hc]at e
 split at e
 ·rename_i s x t u ts ha da;simp only[qO]at e;obtain⟨du,Lx,e⟩:=e;have iz:(∀k,du≠.int k)∧∃el z vs vx,P.underlying t=some (.slice el)∧Kj P el=some z∧r s=some vs∧r x=some vx∧z6 h el z.length vs vx fin=some (v,h'):=by
   split at e
   ·grind
   ·rename_i hn;simp only[qO]at e;grind
  obtain⟨iz,el,z,vs,vx,ht,hz,sc,By,e⟩:=iz;obtain⟨s1,s2⟩:=hr _ _ sc;obtain⟨x1,x2⟩:=hr _ _ By;obtain⟨i,za,hi,Bw,rfl,Bx,pP,Iq,bC⟩:=XY hz;rw[Bx]at bC e;unfold z6 at e;simp only[qO,jO]at e;obtain⟨n,hn,nc,hnc,se,e⟩:=e;have se:=zy se;rw[CT.dD]at se;have ij:=qzd hnc;obtain⟨new,dA⟩:∃new,nc.toList=new:=⟨_,rfl⟩;rw[dA]at se ij;have hnd:aT D new:=(U4 R x2 ij).2;rw[hx,Q5 ha,Q5 da];simp only[List.map_toArray,List.map_cons,List.map_nil,s1,x1];have ix:=λ(base:Option Addr) (dc fz:Nat) (hb:cv m vs=.slice base dc fz)=>qJ4 (w:=w) (ty:=o.type) (ts:=ts) ht Lx iz hi Bw Bx Iq hb (qGL hn) (λW hW=>(U4 (R.heap hW) x2 ij).1)
  have done:∀{z:Value} {w0:World},(Builtin.append_ (t::u::ts).toArray o.type [cv m vs,cv m vx].toArray).run P w=.ok z w0→
    (builtin .append (t::u::ts).toArray o.type cs [cv m vs,cv m vx].toArray).run P w=.ok (.value z) w0:=by
   intro z w0 hh;show(do pure (Next.value (← Builtin.append_ (t::u::ts).toArray o.type [cv m vs,cv m vx].toArray)):Sem Next).run P w=_;simp_all
  have store:∀(b off len la:Nat) (ay:Bool) (rm:Nat) (h1:AH),vs=.slice b off len rm ay→cv m vs=.slice (some ⟨(m b).1,off,none⟩) len la→len+n≤la→wx h b (off+len*i.size) new=some h1→
    ep P m D h w ((builtin .append (t::u::ts).toArray o.type cs [cv m vs,cv m vx].toArray).run P w) (.slice b off (len+n) rm ay) h1:=by
   intro b off len la ay rm h1 Bu dV hle hw;obtain⟨a1,_⟩:=ix _ _ _ dV;subst Bu;obtain⟨w',cQ,Bs,fS⟩:=R.write s2 hnd hw;refine⟨m,D,w',.inl (done ?_),Bs,fS,s2⟩;rw[a1 hle];simp only[];rw[w9,qq cQ];simp only[cv,Value.slice.injEq]at dV ⊢;simp;omega
  have Ar:∀(b off len la:Nat),cv m vs=.slice (some ⟨(m b).1,off,none⟩) len la→n=0→len≤la→
    ep P m D h w ((builtin .append (t::u::ts).toArray o.type cs [cv m vs,cv m vx].toArray).run P w) vs h:=by
   intro b off len la dV lf hle;obtain⟨a1,_⟩:=ix _ _ _ dV;subst lf;have:new=[]:=iA omQ;subst this;refine⟨m,D,w,.inl (done ?_),Ext.refl ..,R,s2⟩;rw[a1 omQ,dV];rfl
  have grow:∀(b off len la:Nat) (cr:List AV),cv m vs=.slice (some ⟨(m b).1,off,none⟩) len la→D b→¬len+n≤la→len+n≤67108864→(vK h b off (len*i.size)=some cr∨∃c t o,h.get b=some (.cells c t o)∧vE (len*i.size) (vh off c.toList)=some cr)→
    ∃cap rest w0,(Builtin.append_ (t::u::ts).toArray o.type [cv m vs,cv m vx].toArray).run P w=.ok (.slice (some ⟨w.heap.size,0,none⟩) (len+n) cap) w0∧
     w0.heap=w.heap.push (.cells ((aQ m (cr++new)).toArray++rest) el)∧w0.os=w.os∧w0.tape=w.tape∧w0.output=w.output∧(cr++new).length≤cap*i.size∧rest.size=cap*i.size-(cr++new).length∧aT D (cr++new):=by
   intro b off len la cr dV hb hle As hold;obtain⟨_,a2⟩:=ix _ _ _ dV;have rd:∀{W:World},Rel P m D h W→(loadCells ⟨(m b).1,off,none⟩ (len*i.size)).run P W=.ok (aQ m cr).toArray W∧aT D cr∧cr.length=len*i.size:=by
    intro W RW;rcases hold with hold |⟨c,t,o,hg,hold⟩
    ·exact RW.read hb hold
    ·exact RW.r7 hb hg hold
   obtain⟨o1,o2,o3⟩:=rd R;obtain⟨cap,rest,c1,c2,c3⟩:=a2 hle As (aQ m cr).toArray (λW hW=>by rw[dV];exact(rd (R.heap hW)).1);have hl:(cr++new).length=(len+n)*i.size:=by grind
   refine⟨cap,rest,_,c3,?_,rfl,rfl,rfl,?_,?_,vp.2 ⟨o2,hnd⟩⟩
   ·simp[Xp]
   ·rw[hl];exact Nat.mul_le_mul_right _ c1
   grind[Nat.sub_mul]
  unfold vV at e;simp only[dA]at e
  split at e
  ·--nil
   obtain⟨a1,a2⟩:=ix none 0 0 rfl;cases lf:Nat.beq n 0
   ·have n0:=vT lf;rw[lf]at e;simp only[cond_false,jO,jZ]at e;obtain⟨As,rfl,rfl⟩:=e;have As:=zA As;obtain⟨cap,rest,c1,c2,c3⟩:=a2 omQ omQ #[] (λW hW=>by rfl);have mZ:rest.size=cap*i.size-new.length:=by rw[c2,se,Nat.zero_add,Nat.sub_mul]
    have Es:new.length≤cap*i.size:=by rw[se];exact Nat.mul_le_mul_right _ omQ
    obtain⟨ex,re⟩:=R.new (.cells nc el true) _ cap (w0:={ w with drawn:=w.drawn+1,heap:=w.heap.push (.cells (#[]++(aQ m new).toArray++rest) el) }) rfl rfl rfl rfl (by grind[cA])
     (LA dA bC Es mZ aA)
    refine⟨_,_,_,.inl (done ?_),ex,re,.inl rfl⟩;grind[cv]
   ·have n0:=zy lf;subst n0;rw[lf]at e;simp only[cond_true,jZ]at e;obtain⟨rfl,rfl⟩:=e;refine⟨m,D,w,.inl (done ?_),Ext.refl ..,R,trivial⟩;rw[a1 omQ];rfl
  ·rename_i b off len cap;cases hle:Nat.ble (len+n) cap
   ·have uh:=KB hle;rw[hle]at e;simp only[cond_false,jO,qO]at e;obtain⟨As,cr,hold,e⟩:=e;have As:=zA As;simp only[jZ]at e;obtain⟨rfl,rfl⟩:=e;obtain⟨c',rest,w0,g1,g2,g3,g4,g5,g6,g7,g8⟩:=grow b off len cap cr rfl s2 omQ As (.inl hold);have na:(bif Nat.beq len 0 then nc else CT.ofList (cr++new)).toList=cr++new:=by
     cases iD:Nat.beq len 0
     ·simp[CT.aD]
     ·have h0:=zy iD;have ho:cr=[]:=iA (by have:=(R.read s2 hold).2.2;grind);grind
    obtain⟨ex,re⟩:=R.new (.cells (bif Nat.beq len 0 then nc else CT.ofList (cr++new)) el true) _ c' g2 g3 g4 g5 (by grind[cA]) (LA na bC g6 g7 g2);refine⟨_,_,_,.inl (done ?_),ex,re,.inl rfl⟩;grind[cv]
   ·have uh:=zA hle;rw[hle]at e;simp only[cond_true]at e;cases lf:Nat.beq n 0
    ·rw[lf]at e;simp only[cond_false,qO,jZ]at e;obtain⟨h1,hw,rfl,rfl⟩:=e;exact store b off len cap false cap h1 rfl rfl uh hw
    ·have n0:=zy lf;rw[lf]at e;simp only[cond_true,jZ]at e;obtain⟨rfl,rfl⟩:=e;exact Ar b off len cap rfl n0 omQ
  ·rename_i b off len i0
   split at e
   ·rename_i cells e' hg;simp only[jO,Bool.and_eq_true]at e;obtain⟨⟨f1,f2,f3,f4⟩,e⟩:=e;have f1:=zA f1;have f2:=zy f2;have f3:=zy f3;have f4:=zA f4;rw[CT.dD]at f4;subst f3;obtain⟨rest,fr,k1,k2,k3,k4,k5⟩:=R.cells s2 hg;obtain⟨k4a,k4b⟩:=k4 rfl _ bC;have En:i0+len≤(m b).2:=by
     have:(i0+len)*i.size≤(m b).2*i.size:=by grind
     exact Nat.le_of_mul_le_mul_right this f1
    cases lf:Nat.beq n 0
    ·have n0:=vT lf;rw[lf]at e;simp only[cond_false]at e;cases cM:Nat.ble (off+(len+n)*i.size) cells.len
     ·have Bz:=KB cM;rw[CT.dD]at Bz;rw[cM]at e;simp only[cond_false,jO,qO,Bool.and_eq_true,jZ]at e;obtain⟨⟨g0,gs,Et⟩,sf,Eu,rfl,rfl⟩:=e;have hold:=CT.nY Eu;obtain⟨cr,TL⟩:∃cr,sf.toList=cr:=⟨_,rfl⟩;rw[TL]at hold;have ik:(sf.ix new).toList=cr++new:=by rw[CT.r5,TL]
      have g0:=zy g0;have gs:=zA gs;subst g0;simp only[Nat.zero_mul]at f2;subst f2;by_cases hle:len+n≤(m b).2
      ·--it grows where it lies
       have hlr:(len+n)*i.size≤(m b).2*i.size:=Nat.mul_le_mul_right _ hle;have hln:(len+n)*i.size=len*i.size+n*i.size:=Nat.add_mul ..;obtain⟨w',q1,q2⟩:=Xz (P:=P) (0+len*i.size) (aQ m new) 0 w _ k1 (by simp;omega) (ZG m Et) (by simpa using k3);obtain⟨a1,_⟩:=ix _ _ _ rfl;have Ev:cr=cells.toList.take (len*i.size)∧len*i.size≤cells.toList.length:=kj hold;obtain⟨o1,o2⟩:=Ev;have ea:cr.length=len*i.size:=by rw[o1,List.length_take];omega
       have BA:cA D (.cells (sf.ix new) el true):=by simp only[cA,ik];rw[o1];exact vp.2 ⟨JY _ k5,hnd⟩
       obtain⟨ex,re⟩:=R.Ep b (.cells (sf.ix new) el true) s2 (Tz hg trivial) q2.size q2.other q2.os q2.tape q2.output BA (by
        simp only[cW,ik];refine⟨(aQ m cells.toList++rest).drop ((len+n)*i.size),fr,?_,(λhh=>by grind),?_,λ_ k hk=>?_⟩
        ·rw[q2.at_]
         congr 2
         have e1:(aQ m cells.toList++rest).take (0+len*i.size+0)=aQ m cr:=by rw[o1,xW,xW,List.take_append_of_le_length (by grind)];simp
         grind[aQ,eH,Xp]
        ·intro j hj;apply k3 j;simp only[List.length_append,List.length_drop,eH,ea,se]at hj;omega
        ·rw[bC]at hk;cases hk;simp;omega)
       refine⟨_,_,w',.inl (done ?_),ex,re,.inl rfl⟩;rw[a1 (by grind)];simp only[];rw[w9,qq q1];simp[cv]
      ·obtain⟨c',TM,w0,g1,g2,g3,g4,g5,g6,g7,g8⟩:=grow b 0 len ((m b).2-0) cr rfl s2 omQ gs (.inr ⟨_,_,_,hg,hold⟩);obtain⟨ex1,re1⟩:=R.kill b s2;obtain⟨ex,re⟩:=re1.new (.cells (sf.ix new) _ true) _ c' g2 g3 g4 g5 (by grind[cA]) (LA ik bC g6 g7 g2);refine⟨_,_,_,.inl (done ?_),ex1.trans ex,re,.inl rfl⟩;rw[g1];simp[cv]
     ·have Bz:=zA cM;rw[CT.dD]at Bz;rw[cM]at e;simp only[cond_true,qO,jZ]at e;obtain⟨h1,hw,rfl,rfl⟩:=e;refine store b off len ((m b).2-i0) true i0 h1 rfl rfl ?_ hw;have:(i0+(len+n))*i.size≤(m b).2*i.size:=by grind
      have:=Nat.le_of_mul_le_mul_right this f1;omega
    ·have n0:=zy lf;rw[lf]at e;simp only[cond_true,jZ]at e;obtain⟨rfl,rfl⟩:=e;exact Ar b off len ((m b).2-i0) rfl n0 omQ
   grind
  grind
 grind
end Go.Ae
namespace Go.Ae
open Go
variable {P:Program} {m:Mp} {D:Nat→Prop} {h h':AH} {w:World} {c:CV} {ρ:Operand→Value} {r:Operand→Option AV} {o:Oper} {v:AV}
theorem qJP {l:List AV} {s:List UInt8} (e:kB l=some s):∃ns:List Int,aQ m l=ns.map (Value.int .u8)∧∀acc:ByteArray,ns.foldl (λr n=>r.push (UInt8.ofNat n.toNat)) acc=⟨acc.data++s.toArray⟩:=by
 induction l generalizing s with
 |nil=>simp[kB]at e;subst e;exact⟨[],rfl,λacc=>by simp⟩
 |cons a l ih=>
  unfold kB at e
  split at e
  ·grind
  ·rename_i n r mK;cases mK;simp only[Option.bind_eq_some_iff]at e;obtain⟨t,ht,e⟩:=e;cases e;obtain⟨ns,h1,h2⟩:=ih ht;refine⟨.ofNat n::ns,by grind[aQ,cv],λacc=>?_⟩;simp_all
  grind
theorem qgb {s d:TypeId} {x:Operand} (ho:o.op=.convert s d x) (hr:eP m D ρ r) (R:Rel P m D h w) (e:bh P c o.op r h fin=some (v,h')):ep P m D h w ((execOp ρ o).run P w) v h':=by
 rw[ho]at e;simp only[bh,qO]at e;obtain⟨a,ha,ds,Is,dd,It,e⟩:=e;obtain⟨a1,a2⟩:=hr _ _ ha;simp only[execOp,ho,a1];cases dd<;>simp only[reduceCtorEq]at e
 case int k=>
  cases ds<;>simp only[reduceCtorEq]at e
  unfold vr at e
  split at e
  ·simp only[jZ]at e;obtain⟨rfl,rfl⟩:=e;refine zB R ?_ trivial;unfold convert;rw[qq (Ae.run_underlying Is),qq (Ae.run_underlying It)];simp only[cv,kL];rfl
  grind
 case string=>
  cases ds<;>simp only[reduceCtorEq]at e
  case string=>
   unfold XA at e
   split at e
   ·simp only[jZ]at e;obtain⟨rfl,rfl⟩:=e;refine zB R ?_ trivial;simp_all[convert,Ae.run_underlying,cv]
   grind
  case slice el=>
   simp only[qO]at e;obtain⟨de,Iu,e⟩:=e;have hu8:de=.int .u8∧Xv h a (λz=>fin z h)=some (v,h'):=by
    grind
   obtain⟨rfl,e2⟩:=hu8;unfold Xv at e2
   split at e2
   ·simp only[jZ]at e2;obtain⟨rfl,rfl⟩:=e2;refine zB R ?_ trivial;unfold convert;rw[qq (Ae.run_underlying Is),qq (Ae.run_underlying It)];simp only[cv];rw[qq (Ae.run_underlying Iu)];rfl
   ·rename_i b off len cp ay;simp only[qO,jZ]at e2;obtain⟨cs,oX,q,hq,rfl,rfl⟩:=e2;obtain⟨r1,r2,r3⟩:=R.read a2 oX;obtain⟨ns,n1,n2⟩:=qJP (m:=m) hq;refine zB R ?_ trivial;obtain⟨cc,BB⟩:∃cc,cv m (.slice b off len cp ay)=.slice (some ⟨(m b).1,off,none⟩) len cc:=⟨_,rfl⟩;rw[BB];rw[run_convert_bytes_string w s d el _ _ _ Is Iu It];rw[run_bytesToString w _ len _ ns (by grind),n2];simp[cv]
   grind
end Go.Ae
namespace Go.Ae
open Go
end Go.Ae
namespace Go.Ae
open Go
variable {P:Program} {m:Mp} {D:Nat→Prop} {h h':AH} {w:World} {c:CV} {ρ:Operand→Value} {r:Operand→Option AV} {o:Oper} {v:AV}
theorem TN (Ew:∀cl f,o.op=.call cl→cl.callee≠.value f) (iz:∀cl x n,o.op=.call cl→cl.callee≠.invoke x n) (hr:eP m D ρ r) (R:Rel P m D h w) (e:cn P c o.op r h=some (v,h')):ep P m D h w ((execOp ρ o).run P w) v h':=by
 have e:bh P c o.op r h fin=some (v,h'):=e;cases ho:o.op with
 |move x=>exact qvF ho hr R e
 |assign x=>exact qV5 ho hr R e
 |pick x y z=>exact qx7 ho hr R e
 |alloc t=>exact qYi ho R e
 |box t x=>exact qyb ho hr R e
 |build t p=>exact qY3 ho hr R e
 |buildSlice t n p=>exact qGf ho hr R e
 |load t x=>exact qk9 ho hr R e
 |store t x y=>exact qqL ho hr R e
 |nilCheck x=>exact jQF ho hr R e
 |binOp op t x y u=>exact qw3 ho hr R e
 |unOp op t x=>exact Ek ho hr R e
 |convert s d x=>exact qgb ho hr R e
 |makeInterface t x=>exact qjH ho hr R e
 |makeFunc f x y=>exact Zv ho hr R e
 |makeSlice t x y=>exact qg0 ho hr R e
 |slice t x lo hi mx=>exact qjN ho hr R e
 |fieldAddr t x f=>exact qqM ho hr R e
 |field t x f=>exact qxs ho hr R e
 |indexAddr t x i=>exact N8 ho hr R e
 |index t x i=>exact qqe ho hr R e
 |typeAssert x xt t ok=>exact qWc ho hr R e
 |extract x i=>exact qJa ho hr R e
 |call cl=>
  cases hc:cl.callee with
  |value f=>simp_all
  |invoke a b=>simp_all
  |builtin b=>
   cases b with
   |len=>exact qw6 ho hc hr R e
   |min=>exact TE (mx:=false) ho hc hr R e
   |max=>exact TE (mx:=true) ho hc hr R e
   |append=>exact qG5 ho hc hr R e
   |_=>rw[ho]at e;simp only[bh,hc,reduceCtorEq]at e
 |_=>rw[ho]at e;simp only[bh,reduceCtorEq]at e
end Go.Ae
namespace Go.Ae
open Go
variable {P:Program} {m:Mp} {D:Nat→Prop} {h h':AH} {w:World} {c:CV} {o:Oper} {v:AV}
def FW (rd:Option Nat):Fence:={ Fence.wide with round:=rd }
def QD (P:Program) (m:Mp) (D:Nat→Prop) (h:AH) (w:World) (r:AV×AH):Ending→World→Prop :=
 λe w'=>∃m' D',e=.returned (cv m' r.1)∧Ext m D h w m' D' r.2 w'∧Rel P m' D' r.2 w'∧bp D' r.1
def OI (P:Program) (m:Mp) (D:Nat→Prop) (h:AH) (w:World) (args:List AV) (r:AV×AH):AV→Prop
 | .fn f first cap=>(∀as W,(callFunc f as).run P W=.ok (.enter f as) W)∧∀n,CallsIn Fence.wide n P f (aQ m (first++args++cap)).toArray w (QD P m D h w r)
 | .yield l=>∃f' tmps assign body,(Instr.yield (m l).1 (aQ m args).toArray).run P w=.ok (.round (m l).1 f' tmps assign body) w∧∀n,RoundIn Fence.wide n P (m l).1 f' tmps assign body w (QD P m D h w r)
 |_=>False
def yh (P:Program) (c:CV):Prop :=
 ∀vf args h r,c vf args h=some r→∀m D w,Rel P m D h w→bp D vf→aT D args→OI P m D h w args r vf
theorem Z7 (m:Mp):cv m .undef=undef:=rfl
theorem qYp {l:List (Nat×Nat)} {t f:Nat} (e:Kl l t=some f):(t,f)∈l:=by
 induction l with
 |nil=>cases e
 |cons p l ih=>
  have e':Bool.rec (motive:=λ_=>Option Nat) (Kl l t) (some p.2) (Nat.beq p.1 t)=some f:=e;cases hb:Nat.beq p.1 t
  ·simp_all
  ·rw[hb]at e';have:=zy hb;grind
theorem qzS {name:String} {t f:Nat}:∀{L:List Nat},(t,f)∈ZZ P name L→Nu P name t=some f:=by
 intro L
 induction L with
 |nil=>nofun
 |cons a L ih=>
  intro h;unfold ZZ at h
  grind
theorem qZR {name:String} {t f:Nat} (e:Nu P name t=some f) (n:Nat) (x:Value) (w:World):(method (n+1) t x name).run P w=.ok (f,x) w:=by
 simp only[Nu,Option.bind_eq_some_iff]at e;obtain⟨i,hi,mm,hm,e⟩:=e;rw[jO]at e;obtain⟨hp,e⟩:=e;simp only[Option.bind_eq_some_iff]at e;obtain⟨g,hg,e⟩:=e;obtain⟨gf,gb⟩:=g;rw[jO]at e;obtain⟨hb,e⟩:=e;simp only at hb;subst hb;simp only[Option.bind_eq_some_iff]at e;obtain⟨d,hd,e⟩:=e
 split at e
 ·rename_i el;cases e;have LB:mm.path= #[]:=by grind
  have hf:i.methods.find? (·.name==name)=some mm:=by grind
  unfold method;rw [qq (run_typeInfo hi)];simp only [hf, LB, hg];rw [qq (show (follow (#[] : Array FieldStep).toList t (.val x)).run P w = .ok (t, .val x) w from rfl)];simp only [];have hr : (receiverAt t (.val x) true (if (#[] : Array FieldStep).isEmpty = true then some ((name.splitOn ".").getLastD name) else none)).run P w = .ok x w := by unfold receiverAt;rw [qq (run_underlying hd)];rfl
  simp_all
 grind
theorem ZV (hc:yh P c) {rd:Option Nat} {n:Nat} {a:Act} {r:Operand→Option AV} (hr:eP m D a.eval r) (R:Rel P m D h w) (e:cn P c o.op r h=some (v,h'))
  {next:Act→World→Prop} {Q:Exit→Act→World→Prop}
  (hn:∀m' D' w',Ext m D h w m' D' h' w'→Rel P m' D' h' w'→bp D' v→next (a.put o.dst (cv m' v)) w'):o.wpIn (FW rd) n P a w next Q:=by
 have hnd:∀cl,o.op≠.defer cl:=by intro cl dz;simp_all
 refine⟨λ_ _=>trivial,?_⟩;rw[Oper.semAt_eq _ _ _ hnd];by_cases hv:∃cl f,o.op=.call cl∧cl.callee=.value f
 ·obtain⟨cl,f,ho,fA⟩:=hv;unfold cn at e;rw[ho]at e;simp only[bh,fA,qO]at e;obtain⟨vf,Au,va,ui,e⟩:=e;obtain⟨f1,f2⟩:=hr _ _ Au;obtain⟨v1,v2⟩:=QP hr ui;rw[Qb]at e
  split at e
  ·rename_i q hq;simp only[jZ]at e;obtain⟨rfl,rfl⟩:=e;have eJ:=hc vf va h q hq m D w R f2 v2;have iU:cl.args.map a.eval=(aQ m va).toArray:=by grind
   cases vf<;>simp only[OI]at eJ
   case fn f' first cap=>
    obtain⟨k1,k2⟩:=eJ;have cQ:(execOp a.eval o).run P w=.ok (.enter f' (aQ m (first++va++cap)).toArray) w:=by
     simp only[execOp,ho];have h1:(resolve a.eval cl o.type).run P w=.ok { target:=.fn (.func f') (aQ m cap).toArray,args:=(aQ m first).toArray++(aQ m va).toArray } w:=by unfold resolve;rw[fA];simp only[f1,cv,iU];rfl
     grind[qq,invoke,aQ,callFunc,Xp]
    rw[cQ];refine⟨(λhh=>by cases hh),?_⟩;refine CallsIn.mono (show CallsIn (FW rd) (n-1) P f' _ w _ from k2 (n-1)) ?_;rintro ee w' ⟨m',D',rfl,ex,re,hd⟩;grind
   case yield l=>
    obtain⟨f',tmps,assign,body,k1,k2⟩:=eJ;have cQ:(execOp a.eval o).run P w=.ok (.round (m l).1 f' tmps assign body) w:=by
     simp only[execOp,ho];have h1:(resolve a.eval cl o.type).run P w=.ok { target:=.fn (.yield (m l).1) #[],args:=(aQ m va).toArray } w:=by simp_all[resolve,cv,Deferred.ofValue]
     rw[qq h1];exact k1
    rw[cQ];refine⟨(λhh=>by cases hh),?_⟩;refine RoundIn.mono (show RoundIn (FW rd) (n-1) P _ _ _ _ _ w _ from k2 (n-1)) ?_;rintro ee w' ⟨m',D',rfl,ex,re,hd⟩;grind
  grind
 ·have Ew:∀cl f,o.op=.call cl→cl.callee≠.value f:=λcl f h1 h2=>hv ⟨cl,f,h1,h2⟩;by_cases hi:∃cl x name,o.op=.call cl∧cl.callee=.invoke x name
  ·obtain⟨cl,x,name,ho,fA⟩:=hi;unfold cn at e;rw[ho]at e;simp only[bh,fA,qO]at e;obtain⟨vx,By,va,ui,e⟩:=e;obtain⟨f1,f2⟩:=hr _ _ By;obtain⟨v1,v2⟩:=QP hr ui;unfold yp at e
   split at e
   ·rename_i t y;cases hf:Kl (OD P name) t with
    |none=>simp_all
    |some f=>
     rw[hf]at e;simp only[Qb]at e
     split at e
     ·rename_i q hq;simp only[jZ]at e;obtain⟨rfl,rfl⟩:=e;have eJ:=hc (.fn f [] []) (y::va) h q hq m D w R ⟨trivial,trivial⟩ ⟨f2,v2⟩;obtain⟨k1,k2⟩:=eJ;have iU:cl.args.map a.eval=(aQ m va).toArray:=by grind
      have cQ:(execOp a.eval o).run P w=.ok (.enter f (aQ m (y::va)).toArray) w:=by
       simp only[execOp,ho];have h1:(resolve a.eval cl o.type).run P w=.ok { target:=.fn (.method name) #[],args:=#[.iface t (cv m y)]++(aQ m va).toArray } w:=by simp_all[resolve,cv]
       rw[qq h1];show(invoke (.fn (.method name) #[]) (#[.iface t (cv m y)]++(aQ m va).toArray)).run P w=_;unfold invoke;simp only[Array.getElem?_append,List.size_toArray,List.length_cons,List.length_nil,Nat.zero_add,Nat.lt_succ_self,if_true];show(callMethod (.iface t (cv m y)) name _).run P w=_;unfold callMethod;simp only[];rw[qq (show(program).run P w=.ok P w from rfl)];have Ex:(method (P.types.size+Made.depth) t (cv m y) name).run P w=.ok (f,cv m y) w:=qZR (qzS (qYp hf)) _ _ _;grind[qq,aQ,List.take_of_length_le]
      rw[cQ];refine⟨(λhh=>by cases hh),?_⟩;have k3:=k2 (n-1);rw[List.nil_append,List.append_nil]at k3;refine CallsIn.mono (show CallsIn (FW rd) (n-1) P f _ w _ from k3) ?_;rintro ee w' ⟨m',D',rfl,ex,re,hd⟩;grind
     grind
   grind
  have iz:∀cl x n,o.op=.call cl→cl.callee≠.invoke x n:=λcl x n h1 h2=>hi ⟨cl,x,n,h1,h2⟩;obtain⟨m',D',w',sg,ex,re,hd⟩:=TN (o:=o) Ew iz hr R e;rcases sg with sg |⟨sg,LC⟩
  ·rw[sg];exact hn m' D' w' ex re hd
  ·rw[sg];have:=hn m' D' w' ex re hd;rw[LC,Z7]at this;trivial
end Go.Ae
namespace Go.Ae
open Go
variable {P:Program} {m:Mp} {D:Nat→Prop} {h h':AH} {w:World} {c:CV} {o:Oper} {v:AV}
structure eK (m:Mp) (D:Nat→Prop) (n:Nat) (a:Act) (tm:PT AV):Prop where
  size:n≤a.tmps.size
  at_:∀t v,tm.get t=some v→a.tmps[t]? =some (cv m v)∧bp D v
theorem eK.ev {n:Nat} {a:Act} {tm:PT AV} (T:eK m D n a tm):eP m D a.eval (ev tm):=by
 intro x v e;cases x with
 |tmp t=>simp only[Ae.ev]at e;obtain⟨h1,h2⟩:=T.at_ t v e;simp_all[Act.eval,Array.getD_eq_getD_getElem?,Option.getD_some]
 |const k=>simp only[Ae.ev]at e;obtain⟨h1,h2⟩:=JV (m:=m) (D:=D) e;exact⟨h1.symm,h2⟩
 |global g=>trivial
 |func f=>simp only[Ae.ev,Option.some.injEq]at e;subst e;trivial
theorem eK.mono {m':Mp} {D':Nat→Prop} {w':World} {n:Nat} {a:Act} {tm:PT AV} (T:eK m D n a tm) (e:Ext m D h w m' D' h' w'):eK m' D' n a tm :=
 ⟨T.size,λt v hv=>by
  obtain⟨h1,h2⟩:=T.at_ t v hv
  exact⟨by rw[e.cv h2];grind,e.bp h2⟩⟩
theorem eK.put {n:Nat} {a:Act} {tm:PT AV} (T:eK m D n a tm) {dst:Option Tmp} {k:PT AV→R} {r:AV×AH} (hv:bp D v) (e:VI n tm dst v k=some r) :
  ∃tm',k tm'=some r∧eK m D n (a.put dst (cv m v)) tm':=by
 cases dst with
 |none=>exact⟨tm,e,T⟩
 |some d=>
  simp only[VI,xm]at e;obtain⟨hd,e⟩:=e;have hd:=zA hd;refine⟨_,e,by simp[Act.put];exact T.size,?_⟩;intro t u hu;rw[PT.bI]at hu;by_cases ht:d=t
  ·subst ht;rw[iJ rfl]at hu;cases hu;refine⟨?_,hv⟩;have:=T.size;grind[Act.put,Array.getElem?_setIfInBounds_self]
  ·rw[iQ ht]at hu;obtain⟨h1,h2⟩:=T.at_ t u hu;grind[Act.put,Array.getElem?_setIfInBounds_ne]
theorem we (a:Act) (dst:Option Tmp) (x:Value):(a.put dst x).defers=a.defers:=by cases dst<;>rfl
structure Z2 (P:Program) (m:Mp) (D:Nat→Prop) (h:AH) (w:World) (n:Nat) (ds:List Deferred) (a:Act) (tm:PT AV) (m':Mp) (D':Nat→Prop) (h':AH) (w':World):Prop where
  ext:Ext m D h w m' D' h' w'
  rel:Rel P m' D' h' w'
  tm:eK m' D' n a tm
  defers:a.defers=ds
theorem KU {ops:Array Oper} {a:Act} {dst:Option Tmp} {x:Value} {g:Nat} {p:Oper} {d:Tmp} (hp:ops[g]? =some p) (hd:p.dst=some d) (bG:dst≠some d) :
  yielded ops (a.put dst x).tmps g=yielded ops a.tmps g:=by
 unfold yielded;simp only[hp,Option.bind_some,hd];cases dst with
 |none=>rfl
 |some t=>grind[Act.put,Array.getElem?_setIfInBounds_ne]
theorem YJ {d:Nat} {l:List Oper} (hw:writes d l=false):∀o∈l,o.dst≠some d:=by
 induction l with
 |nil=>simp
 |cons x l ih=>
  simp only[writes,Bool.or_eq_false_iff]at hw;intro o ho;rcases List.mem_cons.1 ho with rfl |ho
  ·intro e;simp_all
  grind
end Go.Ae
