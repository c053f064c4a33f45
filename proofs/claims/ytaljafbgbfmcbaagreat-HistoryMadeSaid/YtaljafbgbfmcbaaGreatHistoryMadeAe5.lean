/- The abstract executor of the program's form in Lean, shown sound: regions that draw their order: what an operation looks at; the walk in the text's order. -/
import Derived.Test.YtaljafbgbfmcbaaGreatHistoryMadeAe4
namespace Go.Ae
open Go
variable {P:Program} {c:CV} {r r':Operand→Option AV} {h h':AH} {v:AV}
theorem ki {l:List Operand} (hr:∀x∈l,r x=r' x):kX r l=kX r' l:=by
 induction l with
 |nil=>rfl
 |cons a l ih=>simp_all[kX]
theorem GU {pl:Nat→Option (Nat×Nat)} {l:List (Nat×Operand)} (hr:∀x∈l.map (·.2),r x=r' x):yd pl r l=yd pl r' l:=by
 induction l with
 |nil=>rfl
 |cons a l ih=>simp_all[yd,aM]
theorem Mm {x:Option Operand} (hr:∀y∈x,r y=r' y):G9 r x=G9 r' x:=by
 cases x with
 |none=>rfl
 |some x=>simp only[G9,hr x rfl]
theorem qW9 {o:Op} {k:AV→AH→R} (hr:∀x∈o.operands,r x=r' x):aX P c o r h k=aX P c o r' h k:=by
 cases o with
 |call cl=>
  have ha:∀x∈cl.args.toList,r x=r' x:=λx hx=>hr x (by grind[Op.operands,Call.operands]);cases hc:cl.callee with
  |value f=>have hf:r f=r' f:=hr f (by grind[Op.operands,Call.operands]);simp only[aX,hc,hf,ki ha]
  |invoke x name=>have hx:r x=r' x:=hr x (by grind[Op.operands,Call.operands]);simp only[aX,hc,hx,ki ha]
  |builtin b=>
   cases b<;>simp only[aX,hc]
   case len=>
    grind
   case min=>rw[ki ha]
   case max=>rw[ki ha]
   all_goals split<;>simp_all
 |build t ps=> 
  have hp:∀pl,yd pl r ps.toList=yd pl r' ps.toList:=λpl=>GU λx hx=>hr x (by grind[Op.operands]);simp_all[aX]
 |buildSlice t n ps=> 
  have hp:∀pl,yd pl r ps.toList=yd pl r' ps.toList:=λpl=>GU λx hx=>hr x (by grind[Op.operands]);simp_all[aX]
 |makeFunc fn a cp=>have h1:kX r a.toList=kX r' a.toList:=ki λx hx=>hr x (by grind[Op.operands]);have h2:kX r cp.toList=kX r' cp.toList:=ki λx hx=>hr x (by grind[Op.operands]);grind
 |slice t x lo hi mx=>have h1:=hr x (by simp[Op.operands]);have h2:G9 r lo=G9 r' lo:=Mm λy hy=>hr y (by simp_all[Op.operands]);have h3:G9 r hi=G9 r' hi:=Mm λy hy=>hr y (by simp_all[Op.operands]);grind
 |_=>
  simp only[aX]
  try simp only[Op.operands,List.mem_toArray,List.mem_cons,List.not_mem_nil,or_false,forall_eq_or_imp,forall_eq]at hr
  try simp only[hr]
end Go.Ae
namespace Go.Ae
open Go
variable {P:Program} {c:CV} {r:Operand→Option AV} {h h':AH} {v:AV} {o:Op}
theorem qwC (hp:mX P o=.pure) (hc:Yj P o=false) (g:AH) (k:AV→AH→R):aX P c o r g k=aX P c o r h (λv _=>k v g):=by
 cases o with
 |convert s d x=>
  simp only[mX]at hp;grind
 |slice t x lo hi mx=>
  simp only[Yj]at hc;cases mx with
  |some _=>rfl
  |none=>
   simp only[aX];refine qc λ_=>qc λ_=>qc λ_=>?_;grind
 |call cl=>
  simp only[mX]at hp;cases dE:cl.callee with
  |value f=>grind
  |invoke a b=>grind
  |builtin b=> 
   rw[dE]at hp;cases b
   case len=>
    simp only[aX,dE];simp only[]at hp;cases cl.args.toList with
    |nil=>rfl
    |cons x xs=>
     cases CW:cl.argTypes.toList with
     |nil=>rfl
     |cons t ts=>
      rw[CW]at hp;simp only[]at hp ⊢;refine qc λv=>?_;grind
   all_goals first |(simp only[aX,dE];done) |grind
 |_=>first |rfl |(simp only[mX,reduceCtorEq]at hp;done) |skip
theorem qXS (hp:mX P o=.pure) (hc:Yj P o=false) (e:dt P c o r h=some (v,h')):h'=h∧∀g,dt P c o r g=some (v,g):=by
 have key:∀g,dt P c o r g=some (v,g):=by intro g;unfold dt;rw[qwC hp hc (h:=h),qWT,show dt P c o r h=some (v,h')from e];rfl
 simp_all
def Ex (mk:Nat→AV):Prop:=mk=(λb=>.ptr b 0)∨∃l k,mk=λb=>.slice b 0 l k false
theorem Ow (hp:mX P o=.fresh) (e:dt P c o r h=some (v,h')):∃mk x,Ex mk∧v=mk h.nx∧h'=h.new x∧∀g,dt P c o r g=some (mk g.nx,g.new x):=by
 have box:∀(t:TypeId) (u:AV),J4 h t u (λv h'=>some (v,h'))=some (v,h')→∃mk x,Ex mk∧v=mk h.nx∧h'=h.new x∧∀g,J4 g t u (λv h'=>some (v,h'))=some (mk g.nx,g.new x):=by intro t u e;unfold J4 at e;simp only[jL]at e;obtain⟨h1,e⟩:=e;cases e;exact⟨λb=>.ptr b 0,_,.inl rfl,rfl,rfl,λg=>by grind[J4]⟩
 cases o with
 |alloc t=>grind
 |box t y=>grind
 |buildSlice t n ps=>
  unfold dt at e ⊢;simp only[aX,qD]at e ⊢;obtain⟨d,hd,e⟩:=e;cases d<;>simp only[reduceCtorEq]at e
  rename_i el;simp only[qD,zM]at e;obtain⟨z,hz,hle,vs,rO,e⟩:=e;unfold xd at e;simp only[qD,jL]at e;obtain⟨cs,sR,h1,e⟩:=e;cases e;refine⟨λb=>.slice b 0 n n false,_,.inr ⟨n,n,rfl⟩,rfl,rfl,λg=>⟨_,hd,?_⟩⟩;simp only[qD,zM];refine⟨z,hz,hle,vs,rO,?_⟩;unfold xd;grind
 |makeSlice t a b=>
  unfold dt at e ⊢;simp only[aX,qD]at e ⊢;obtain⟨d,hd,e⟩:=e;cases d<;>simp only[reduceCtorEq]at e
  rename_i el;simp only[qD]at e;obtain⟨z,hz,va,sZ,vb,Tm,e⟩:=e;unfold YG at e
  split at e
  rotate_left
  ·grind
  rename_i k1 ln k2 cp;simp only[jL]at e;obtain⟨h1,e⟩:=e;cases e;refine⟨λb=>.slice b 0 ln cp false,_,.inr ⟨ln,cp,rfl⟩,rfl,rfl,λg=>⟨_,hd,?_⟩⟩;simp_all[YG,jL]
 |convert s d x=>
  grind[mX]
 |call cl=>
  simp only[mX]at hp;cases dE:cl.callee with
  |value f=>simp_all
  |invoke a b=>simp_all
  |builtin b=>
   rw[dE]at hp;cases b<;>first |(cases hp;done) |skip
   simp only[]at hp
   split at hp
   ·split at hp<;>cases hp
   grind
 |_=>simp only[mX,reduceCtorEq]at hp
theorem Hw {a b:Int} (h:ny a b=true):a=b:=by grind[Mn]
theorem Hx {a b:List UInt8} (h:lU a b=true):a=b:=by grind[lK]
mutual
theorem UO:∀{a b:AV},gw a b=true→a=b
 | .bool a,.bool b,h=>by simp only[gw,beq_iff_eq]at h;rw[h]
 | .int k a,.int k' b,h=>by simp only[gw,Bool.and_eq_true,beq_iff_eq]at h;rw[h.1,Hw h.2]
 | .str a,.str b,h=>by simp only[gw]at h;rw[Hx h]
 | .ptr b o,.ptr b' o',h=>by simp only[gw,Bool.and_eq_true]at h;rw[zF h.1,zF h.2]
 | .aW,.aW,_=>rfl
 | .slice b o l c p,.slice b' o' l' c' p',h=>by simp only[gw,Bool.and_eq_true,beq_iff_eq]at h;rw[zF h.1,zF h.2.1,zF h.2.2.1,zF h.2.2.2.1,h.2.2.2.2]
 | .aj,.aj,_=>rfl
 | .fn f a c,.fn f' a' c',h=>by simp only[gw,Bool.and_eq_true]at h;rw[zF h.1,KE h.2.1,KE h.2.2]
 | .yield l,.yield l',h=>by simp only[gw]at h;rw[zF h]
 | .eR,.eR,_=>rfl
 | .iface t v,.iface t' v',h=>by simp only[gw,Bool.and_eq_true]at h;rw[zF h.1,UO h.2]
 | .dQ,.dQ,_=>rfl
 | .agg l,.agg l',h=>by simp only[gw]at h;rw[KE h]
 | .cA l,.cA l',h=>by simp only[gw]at h;rw[KE h]
 | .bM a,.bM a',h=>by simp only[gw,decide_eq_true_eq]at h;rw[h]
 | .tail b o o' i,.tail b' p p' j,h=>by simp only[gw,Bool.and_eq_true]at h;rw[zF h.1,zF h.2.1,zF h.2.2.1,zF h.2.2.2]
 | .da b,.da b',h=>by simp only[gw]at h;rw[zF h]
theorem KE:∀{a b:List AV},Kf a b=true→a=b
 |[],[],_=>rfl
 |a::r,b::s,h=>by simp only[Kf,Bool.and_eq_true]at h;rw[UO h.1,KE h.2]
end
end Go.Ae
namespace Go.Ae
open Go
variable {P:Program} {c:CV} {r:Operand→Option AV} {h h':AH} {v:AV} {o:Op}
theorem Ny {t:TypeId} {x:Operand} (e:dt P c (.load t x) r h=some (v,h')):h'=h∧∃b off,r x=some (.ptr b off)∧
  (∀g,g.get b=h.get b→dt P c (.load t x) r g=some (v,g))∧(∀g,zR (.ptr b off) (wF P (.load t x)) v g=true→dt P c (.load t x) r g=some (v,g)):=by
 unfold dt at e;simp only[aX,qD]at e;obtain⟨a,ha,i,hi,e⟩:=e;have hn:wF P (.load t x)=i:=by grind[wF]
 rw[hn];cases i with
 |none=>
  simp only[gD]at e
  split at e
  rotate_left
  ·grind
  rename_i b off;have hz:∃z,(∀g,g.get b=h.get b→jK g (.ptr b off) (λz=>some (z,g))=some (z,g))∧(v,h')=(z,h):=by
   split at e
   ·rename_i cs t' op hg;simp only[qD]at e;obtain⟨z,hz,e⟩:=e;cases e;exact⟨_,λg CX=>by grind[gD],rfl⟩
   ·rename_i ti hg;simp only[qD]at e;obtain⟨z,hz,e⟩:=e;cases e;exact⟨_,λg CX=>by grind[gD],rfl⟩
   grind
  obtain⟨z,hz,e⟩:=hz;cases e;refine⟨rfl,b,off,ha,?_,?_⟩
  ·grind
  ·intro g hl;unfold dt;simp only[aX,qD];refine⟨_,ha,_,hi,?_⟩;simp only[zR]at hl
   split at hl
   ·rename_i Se t2 op2 pZ
    split at hl
    ·rename_i y hy;have:=UO hl;subst this;simp only[gD,pZ,qD];grind
    grind
   ·rename_i ti pZ
    split at hl
    ·rename_i y hy;have:=UO hl;subst this;simp only[gD,pZ,qD];grind
    grind
   grind
 |some n=>
  simp only[ku]at e
  split at e
  rotate_left
  ·grind
  rename_i b off;simp only[qD]at e;obtain⟨z,hz,e⟩:=e;cases e;refine⟨rfl,b,off,ha,?_,?_⟩
  ·intro g CX;unfold dt;simp only[aX,qD];refine⟨_,ha,_,hi,?_⟩;simp only[ku,qD];refine⟨z,?_,rfl⟩;grind[yo]
  ·intro g hl;unfold dt;simp only[aX,qD];refine⟨_,ha,_,hi,?_⟩;simp only[ku,qD];simp only[zR]at hl
   split at hl
   ·rename_i Se t2 op2 pZ
    split at hl
    ·rename_i y hy;have:=UO hl;cases this;refine⟨_,?_,rfl⟩;grind[yo]
    grind
   ·rename_i ti pZ
    split at hl
    ·rename_i y hy;have:=UO hl;cases this;refine⟨_,?_,rfl⟩;grind[yo]
    grind
   grind
theorem GX (hl:V2 o=true):∃t x,o=.load t x:=by
 cases o<;>first |exact⟨_,_,rfl⟩ |cases hl
theorem Za (a b:Nat) (h:b+1≤65536):(a*65536+b)/65536=a∧(a*65536+b)%65536=b:=by omega
theorem ZL (hc:Yj P o=true) (e:dt P c o r h=some (v,h')):h'=h∧∃x∈o.operands,∃u,r x=some u∧Yu r o=some u∧
  (∀g,(∀b off l i,u=.slice b off l i true→g.get b=h.get b)→dt P c o r g=some (v,g))∧(∀g,zR u (wF P o) v g=true→dt P c o r g=some (v,g)):=by
 cases o<;>try (cases hc;done)
 rename_i t x lo hi mx;unfold dt at e;cases mx with
 |some _=>grind
 |none=>
  simp only[aX,qD]at e;obtain⟨u,hu,l,hl,q,hq,d,hd,e⟩:=e;cases d<;>first |(simp only[reduceCtorEq]at e;done) |skip
  case string=>grind[Yj]
  case array n el=>grind[Yj]
  case slice el=>
   simp only[qD]at e;obtain⟨sz,bz,e⟩:=e;have key:∀g:AH,(∀b off l i,u=.slice b off l i true→g.get b=h.get b)→xC g el sz u l q (λz=>some (z,g))=cJ (xC h el sz u l q (λz=>some (z,h))) (λv _=>some (v,g)):=by
    intro g hg;rw[SW];unfold xC
    split
    ·rfl
    ·rename_i b off len i0;have:vJ g el b off sz i0 len=vJ h el b off sz i0 len:=by unfold vJ;grind
     grind
    all_goals rfl
   have Hy:∀g:AH,(∀b off l i,u=.slice b off l i true→g.get b=h.get b)→dt P c (.slice t x lo hi none) r g=some (v,g):=by intro g hg;unfold dt;simp only[aX,qD];refine⟨u,hu,l,hl,q,hq,_,hd,?_⟩;simp only[qD];refine⟨sz,bz,?_⟩;grind
   have Tn:∀g:AH,zR u (wF P (.slice t x lo hi none)) v g=true→dt P c (.slice t x lo hi none) r g=some (v,g):=by
    intro g hg;unfold dt;simp only[aX,qD];refine⟨u,hu,l,hl,q,hq,_,hd,?_⟩;simp only[qD];refine⟨sz,bz,?_⟩;have e0:xC g el sz u l q (λz=>some (z,g))=cJ (xC h el sz u l q (λz=>some (z,h))) (λv _=>some (v,g)):=by
     rw[SW];unfold xC at e ⊢
     split at e
     ·rfl
     ·rename_i b off len i0;simp only[wF,hd,bz]at hg;cases hb:Nat.ble (sz+1) 65536
      ·rw[hb]at hg;cases hg
      ·rw[hb]at hg;simp only[cond_true,zR]at hg;have h1:=wm hb;grind[Za,vJ]
     all_goals rfl
    grind
   refine⟨?_,x,by simp[Op.operands],u,hu,hu,Hy,Tn⟩;grind
theorem qgS (l:List Nat) (t:Nat):(FC l).testBit t=l.any λa=>a.testBit t:=by
 induction l with
 |nil=>simp[FC]
 |cons a l ih=>grind[FC]
theorem ZO (t s:Nat):(bit t).testBit s=decide (t=s):=by simp[bit,Nat.testBit_two_pow]
theorem GS {all:List Oper} {o:Oper} {t:Nat} (h:.tmp t∈o.op.operands):(JA all o).testBit t=true:=by unfold JA;rw[Nat.testBit_or,qgS];simp only[Bool.or_eq_true,List.any_eq_true,List.mem_map];exact .inl ⟨_,⟨.tmp t,by grind,rfl⟩,by simp[rdO,ZO]⟩
theorem qJB {all:List Oper} {o:Oper} {g:Nat×Bool} {d:Nat} (hg:o.guard=some g) (hd:QC all o=some d):(JA all o).testBit d=true:=by grind[JA,ZO]
theorem Xs (o:Oper) (t:Nat):(X5 o).testBit t=decide (o.dst=some t):=by
 grind[X5,ZO]
theorem Vl {a b:Nat} (h:Nat.beq (a&&&b) 0=true) (t:Nat) (ha:a.testBit t=true):b.testBit t=false:=by have h:=zF h;have:=congrArg (λx=>x.testBit t) h;grind
end Go.Ae
namespace Go.Ae
open Go
variable {P:Program}
def VG (e:Edge):Bool:=Region.binds .any e
theorem Yx {j:Nat} {l:List Edge} (h:Qp j l=true):∀e∈l,VG e=true→e.on<j:=by
 induction l with
 |nil=>simp
 |cons a l ih=>
  simp only[Qp,Bool.and_eq_true]at h;intro e he hb;rcases List.mem_cons.1 he with rfl |he
  all_goals grind[VG,zN]
def Vj (mk wj lj:Nat) (e:FD):Prop:=mk.testBit e.i=true∨(Nat.beq (e.w&&&(lj|||wj)) 0=true∧Nat.beq (wj&&&e.l) 0=true)
theorem qZ8 {mk wj lj:Nat} {l:List FD} (h:Pk mk wj lj l=true):∀e∈l,Vj mk wj lj e:=by
 induction l with
 |nil=>simp
 |cons a l ih=>
  simp only[Pk,Bool.and_eq_true,Bool.or_eq_true]at h;intro e he;rcases List.mem_cons.1 he with rfl |he
  ·exact h.1
  grind
theorem qqS {t:PT Nat} {all:List Oper}:∀(l:List Oper) (j:Nat) (es:List FD),uQ t all l j es=true→∀k o,l[k]? =some o→Qp (j+k) o.after.toList=true∧
  (∀e∈es,Vj (xg t (j+k)) (X5 o) (JA all o) e)∧∀i oi,i<k→l[i]? =some oi→Vj (xg t (j+k)) (X5 o) (JA all o) ⟨j+i,X5 oi,JA all oi⟩:=by
 intro l
 induction l with
 |nil=>simp
 |cons a l ih=>
  intro j es h k o hk;simp only[uQ,Bool.and_eq_true]at h;obtain⟨h1,h2,h3⟩:=h;cases k with
  |zero=>grind[qZ8]
  |succ k=>
   simp at hk;obtain⟨g1,g2,g3⟩:=ih (j+1) _ h3 k o hk;rw[show j+1+k=j+(k+1) by omega]at g1 g2 g3;refine⟨g1,λe he=>g2 e (iX _ he),?_⟩;intro i oi hi mP;cases i with
   |zero=>grind
   |succ i=>
    grind
theorem qXc:∀(l:List Oper) (j:Nat) (t:PT Nat) (i:Nat),i<j→(kq l j t).get i=t.get i:=by
 intro l
 induction l with
 |nil=>intro j t i _;rfl
 |cons a l ih=>intro j t i hi;simp only[kq];rw[ih _ _ _ omQ,PT.bN,iQ omQ]
theorem qKa:∀(l:List Oper) (j:Nat) (t:PT Nat) (k:Nat) (o:Oper),l[k]? =some o→∃T:PT Nat,(∀i,i<j+k→(kq l j t).get i=T.get i)∧
  (kq l j t).get (j+k)=some (o.after.toList.foldl (λs e=>bif Region.binds .any e then s|||(2 ^ e.on|||xg T e.on)else s) 0):=by
 intro l
 induction l with
 |nil=>simp
 |cons a l ih=>
  intro j t k o hk;cases k with
  |zero=>
   simp at hk;subst hk;refine⟨t,?_,?_⟩
   ·intro i hi;simp only[kq];rw[qXc _ _ _ _ omQ,PT.bN,iQ omQ]
   ·simp only[kq,Nat.add_zero];rw[qXc _ _ _ _ omQ,PT.bN,iJ rfl];rfl
  |succ k=>simp at hk;obtain⟨T,h1,h2⟩:=ih (j+1) _ k o hk;rw[show j+1+k=j+(k+1) by omega]at h1 h2;exact⟨T,h1,h2⟩
theorem qqH {T:PT Nat} {k:Nat}:∀(l:List Edge) (s:Nat),(l.foldl (λs e=>bif Region.binds .any e then s|||(2 ^ e.on|||xg T e.on)else s) s).testBit k=true→
  s.testBit k=true∨∃e∈l,VG e=true∧(k=e.on∨(xg T e.on).testBit k=true):=by
 intro l
 induction l with
 |nil=>simp
 |cons a l ih=>
  intro s h;simp only[List.foldl_cons]at h;rcases ih _ h with h |⟨e,he,hb,hk⟩
  ·cases hb:Region.binds .any a
   ·grind
   ·rw[hb]at h;simp only[cond_true,Nat.testBit_or,Bool.or_eq_true,Nat.testBit_two_pow,decide_eq_true_eq]at h;rcases h with h |h |h
    ·grind
    ·exact .inr ⟨a,iK ..,hb,.inl h.symm⟩
    ·exact .inr ⟨a,iK ..,hb,.inr h⟩
  grind
theorem qkl {ops:Array Oper} {i k:Nat} {o:Oper} (ho:ops[i]? =some o) (hb:Qp i o.after.toList=true) (h:(xg (kq ops.toList 0 .e) i).testBit k=true) :
  ∃e∈o.after,VG e=true∧e.on<i∧(k=e.on∨(xg (kq ops.toList 0 .e) e.on).testBit k=true):=by
 obtain⟨T,h1,h2⟩:=qKa ops.toList 0 .e i o (by grind);simp only[Nat.zero_add]at h1 h2;unfold xg at h;rw[h2]at h;simp only[]at h;rcases qqH _ _ h with h |⟨e,he,Ey,hk⟩
 all_goals grind[Yx,xg,kq]
theorem qKm {t:PT Nat} {s:Nat→Prop} (hs:∀a b,s a→(xg t a).testBit b=true→s b):∀(l:List Oper) (j:Nat) (last:Option Nat),chain P t l j last=true→
  ∀k o,l[k]? =some o→xj P o.op=true→s (j+k)→(∀i,last=some i→s i)∧∀i oi,i<k→l[i]? =some oi→xj P oi.op=true→s (j+i):=by
 intro l
 induction l with
 |nil=>simp
 |cons a l ih=>
  intro j last h k o hk hh pp;simp only[chain]at h;cases ha:xj P a.op
  ·rw[ha]at h;cases k with
   |zero=>grind
   |succ k=>
    simp at hk;rw[show j+(k+1)=j+1+k by omega]at pp;obtain⟨g1,g2⟩:=ih (j+1) last h k o hk hh pp;refine⟨g1,?_⟩;intro i oi hi mP l8;cases i with
    |zero=>grind
    |succ i=>
     grind
  ·rw[ha]at h;simp only[cond_true,Bool.and_eq_true]at h;obtain⟨h1,h2⟩:=h;have bZ:s j→∀i,last=some i→s i:=by
    grind
   cases k with
   |zero=>grind
   |succ k=>
    simp at hk;rw[show j+(k+1)=j+1+k by omega]at pp;obtain⟨g1,g2⟩:=ih (j+1) (some j) h2 k o hk hh pp;have hj:=g1 j rfl;refine⟨bZ hj,?_⟩;intro i oi hi mP l8;cases i with
    |zero=>grind
    |succ i=>
     grind
theorem NY {t:PT Nat} {i:Nat}:∀(l:List Oper) (j:Nat),GQ P t i l j=false→∀k o,l[k]? =some o→xj P o.op=true→QY t i (j+k)=false:=by
 intro l
 induction l with
 |nil=>simp
 |cons a l ih=>
  intro j h k o hk hh;simp only[GQ,Bool.or_eq_false_iff]at h;grind
theorem Nm {t:PT Nat} {p:Op→Bool} {all:List Oper}:∀(l:List Oper) (i:Nat),Y4 P p t all l i=false→∀k o,l[k]? =some o→p o.op=true→
  ∀j oj,all[j]? =some oj→xj P oj.op=true→QY t (i+k) j=false:=by
 intro l
 induction l with
 |nil=>simp
 |cons a l ih=>
  intro i h k o hk hp j oj hj hh;simp only[Y4,Bool.or_eq_false_iff]at h;cases k with
  |zero=>simp at hk;subst hk;have h1:=h.1;rw[hp,Bool.true_and]at h1;have:=NY all 0 h1 j oj hj hh;grind
  |succ k=>
   grind
structure Stat (P:Program) (ops:Array Oper) (M:PT Nat):Prop where
  back:∀j o,ops[j]? =some o→∀e∈o.after,VG e=true→e.on<j
  rR:∀i o k,ops[i]? =some o→(xg M i).testBit k=true→∃e∈o.after,VG e=true∧e.on<i∧(k=e.on∨(xg M e.on).testBit k=true)
  apart:∀i j oi oj,i<j→ops[i]? =some oi→ops[j]? =some oj→Vj (xg M j) (X5 oj) (JA ops.toList oj) ⟨i,X5 oi,JA ops.toList oi⟩
  chain:∀s:Nat→Prop,(∀a b,s a→(xg M a).testBit b=true→s b)→∀i j oi oj,i<j→ops[i]? =some oi→ops[j]? =some oj→xj P oi.op=true→xj P oj.op=true→s j→s i
theorem qgb {ops:Array Oper} (h:Pm P ops=true):Stat P ops (kq ops.toList 0 .e):=by
 simp only[Pm,Bool.and_eq_true]at h;obtain⟨h1,h2⟩:=h;have hl:=qqS _ _ _ h1;refine⟨?_,?_,?_,?_⟩
 ·intro j o ho e he hb;have:=(hl j o (by grind)).1;rw[Nat.zero_add]at this;exact Yx this e (by grind) hb
 ·simp_all[Nat.zero_add,qkl]
 ·grind
 ·intro s hs i j oi oj BD hi hj l8 To Hz;have:=(qKm hs _ _ _ h2 j oj (by grind) To (by grind)).2 i oi BD (by grind) l8;grind
end Go.Ae
namespace Go.Ae
open Go
variable {P:Program} {c:CV} {r r':Operand→Option AV} {h h':AH} {v:AV}
theorem jk {α:Type} {x y:Option α} {f g:α→R} {q:AV×AH} (hx:∀v,x=some v→y=some v) (hf:∀v,x=some v→f v=some q→g v=some q) (e:ob x f=some q):ob y g=some q:=by grind
theorem qYC (hr:∀x v,r x=some v→r' x=some v):∀(l:List Operand) (s:List AV),kX r l=some s→kX r' l=some s:=by
 intro l
 induction l with
 |nil=>intro s e;exact e
 |cons a l ih=>grind[kX,Option.bind_eq_some_iff]
theorem qQ1 (hr:∀x v,r x=some v→r' x=some v) {pl:Nat→Option (Nat×Nat)}:∀(l:List (Nat×Operand)) (s:List (Nat×Nat×AV)),yd pl r l=some s→yd pl r' l=some s:=by
 intro l
 induction l with
 |nil=>intro s e;exact e
 |cons a l ih=>intro s e;obtain⟨i,x⟩:=a;simp only[yd,Option.bind_eq_some_iff,Option.map_eq_some_iff]at e ⊢;grind
theorem qqh (hr:∀x v,r x=some v→r' x=some v) (x:Option Operand) (s:Option AV) (e:G9 r x=some s):G9 r' x=some s:=by
 cases x with
 |none=>exact e
 |some x=>grind[G9,Option.map_eq_some_iff]
theorem ML {o:Op} {k:AV→AH→R} {q:AV×AH} (hr:∀x v,r x=some v→r' x=some v) (e:aX P c o r h k=some q):aX P c o r' h k=some q:=by
 have m1:=qYC hr;have m2:=λpl=>qQ1 hr (pl:=pl);have m3:=qqh hr;cases o with
 |call cl=>
  cases hc:cl.callee with
  |value f=>simp only[aX,hc]at e ⊢;grind
  |invoke x name=>simp only[aX,hc]at e ⊢;grind
  |builtin b=>
   cases b<;>simp only[aX,hc,reduceCtorEq]at e ⊢
   case len=>
    grind
   case min=>grind
   case max=>grind
   case append=>
    generalize cl.argTypes.toList=ts at*;generalize cl.args.toList=xs at*;rcases xs with _ |⟨s,_ |⟨x,_ |⟨y,xs⟩⟩⟩<;>rcases ts with _ |⟨t,_ |⟨u,ts⟩⟩<;>simp only[reduceCtorEq]at e ⊢
    refine jk (λ_ e=>e) (λdu _ e=>?_) e;revert e
    split
    ·simp
    ·refine jk (λ_ e=>e) (λd _ e=>?_);revert e
     split
     all_goals grind
   case copy=>
    generalize cl.argTypes.toList=ts at*;generalize cl.args.toList=xs at*;rcases xs with _ |⟨s,_ |⟨x,_ |⟨y,xs⟩⟩⟩<;>rcases ts with _ |⟨t,ts⟩<;>simp only[reduceCtorEq]at e ⊢
    grind
   grind
 |build t ps=>
  simp only[aX]at e ⊢;refine jk (λ_ e=>e) (λ_ _=>jk (λ_ e=>e) λd _ e=>?_) e;revert e
  split
  all_goals grind
 |buildSlice t n ps=>
  simp only[aX]at e ⊢;refine jk (λ_ e=>e) (λd _ e=>?_) e;revert e
  split
  ·refine jk (λ_ e=>e) (λ_ _ e=>?_);grind
  simp
 |makeFunc fn a cp=>
  grind
 |makeInterface t x=>
  grind
 |makeSlice t a b=>
  simp only[aX]at e ⊢;refine jk (λ_ e=>e) (λd _ e=>?_) e;revert e
  split
  all_goals grind
 |slice t x lo hi mx=>
  grind
 |range t x=>
  grind
 |makeMap t hint=>grind
 |lookup t x i ok=>grind
 |mapEntry t x i=>grind
 |mapUpdate t x s y=>grind
 |entryStore t x s y=>grind
 |next x b=>grind
 |pick a b d=>grind
 |store t a x=>grind
 |binOp op t x y u=>grind
 |indexAddr t x i=>grind
 |index t x i=>grind
 |alloc t=>grind
 |_=>first |exact jk (hr _) (λ_ _ e=>e) e |(simp only[aX,reduceCtorEq]at e;done)
def cU (F:Nat→Option AV) (dst:Option Tmp) (v:AV):Nat→Option AV:=λt=>if dst=some t then some v else F t
def iM (F:Nat→Option AV):Operand→Option AV
 | .tmp t=>F t
 | .const v=>Fv v
 | .global _=>none
 | .func f=>some (.fn f [] [])
def Qh (tm:PT AV) (F:Nat→Option AV):Prop:=∀t v,tm.get t=some v→F t=some v
theorem PN {tm:PT AV} {F:Nat→Option AV} (h:Qh tm F):∀x v,ev tm x=some v→iM F x=some v:=by
 intro x v e;cases x with
 |tmp t=>exact h t v e
 |_=>exact e
def QU:AV→Bool→Bool
 | .bool t,w=>t==w
 |_,_=>false
structure Tp (P:Program) (c:CV) (n:Nat) (ops:Array Oper) (LP:Yz→Prop) (HP:Xx→Prop) (i:Nat) (o:Oper) (F:Nat→Option AV) (h:AH) (v:AV) (b:Bool) (h':AH):Prop where
  yes:b=true→dt P c o.op (iM F) h=some (v,h')
  no:b=false→v=.undef∧h'=h
  g0:o.guard=none→b=true
  g1:∀g,o.guard=some g→∃d vg,QC ops.toList o=some d∧F d=some vg∧b=QU vg g.2
  dst:∀d,o.dst=some d→d<n
  ld:b=true→gR P o.op=true→∃a,Yu (iM F) o.op=some a∧LP ⟨i,a,wF P o.op,v⟩
  hv:b=true→xj P o.op=true→HP ⟨i,h,h'⟩
inductive nU (P:Program) (c:CV) (n:Nat) (ops:Array Oper) (LP:Yz→Prop) (HP:Xx→Prop):Nat→(Nat→Option AV)→AH→Nat→(Nat→Option AV)→AH→Prop where
  |nil (i:Nat) (F:Nat→Option AV) (h:AH):nU P c n ops LP HP i F h i F h
  | cons (i : Nat) (o : Oper) (F : Nat → Option AV) (h : AH) (v : AV) (b : Bool) (h' : AH) (j : Nat) (F' : Nat → Option AV) (h2 : AH) : ops[i]? = some o → Tp P c n ops LP HP i o F h v b h' →
      nU P c n ops LP HP (i+1) (cU F o.dst v) h' j F' h2→nU P c n ops LP HP i F h j F' h2
theorem nU.trans {n:Nat} {ops:Array Oper} {LP:Yz→Prop} {HP:Xx→Prop} {i j k:Nat} {F F' F'':Nat→Option AV} {h h' oM:AH}
  (a:nU P c n ops LP HP i F h j F' h') (b:nU P c n ops LP HP j F' h' k F'' oM):nU P c n ops LP HP i F h k F'' oM:=by
 induction a with
 |nil=>grind
 |cons i o F h v b' h' j F' h2 ho hs _ ih=>exact .cons i o F h v b' h' k _ _ ho hs (ih b)
structure Tr (P:Program) (c:CV) (n:Nat) (ops:Array Oper) (LP:Yz→Prop) (HP:Xx→Prop) (F:Nat→Nat→Option AV) (H:Nat→AH) (V:Nat→AV) (W:Nat→Bool):Prop where
  step:∀i o,ops[i]? =some o→Tp P c n ops LP HP i o (F i) (H i) (V i) (W i) (H (i+1))∧F (i+1)=cU (F i) o.dst (V i)
theorem nU.fns {n:Nat} {ops:Array Oper} {LP:Yz→Prop} {HP:Xx→Prop} {i j:Nat} {F0 F1:Nat→Option AV} {h0 h1:AH} (a:nU P c n ops LP HP i F0 h0 j F1 h1) :
  i≤j∧∃(F:Nat→Nat→Option AV) (H:Nat→AH) (V:Nat→AV) (W:Nat→Bool),F i=F0∧H i=h0∧F j=F1∧H j=h1∧
   ∀k o,i≤k→k<j→ops[k]? =some o→Tp P c n ops LP HP k o (F k) (H k) (V k) (W k) (H (k+1))∧F (k+1)=cU (F k) o.dst (V k):=by
 induction a with
 |nil i F h=>exact⟨Nat.le_refl _,λ_=>F,λ_=>h,λ_=>.undef,λ_=>true,rfl,rfl,rfl,rfl,λk o h1 h2=>by omega⟩
 |cons i o F h v b h' j F' h2 ho hs _ ih=>
  obtain⟨BD,G,H,V,W,e1,e2,e3,e4,e5⟩:=ih;refine⟨by omega,λk=>if k=i then F else G k,λk=>if k=i then h else H k,λk=>if k=i then v else V k,λk=>if k=i then b else W k,by simp,by simp,?_,?_,?_⟩
  all_goals grind
end Go.Ae
namespace Go.Ae
open Go
variable {P:Program} {c:CV} {n:Nat} {ops:Array Oper}
theorem K3 {tm:PT AV} {F:Nat→Option AV} (h:Qh tm F) {dst:Option Tmp} {v:AV} {k:PT AV→R} {r:AV×AH} (e:M4 n tm dst v k=some r) :
  ∃tm',k tm'=some r∧Qh tm' (cU F dst v)∧∀d,dst=some d→d<n:=by
 cases dst with
 |none=>exact⟨tm,e,λt u hu=>by simp only[cU];rw[iQ aM];exact h t u hu,λd hd=>by grind⟩
 |some d=>
  simp only[M4,zM]at e;refine⟨_,e.2,?_,λd' hd=>by cases hd;exact zN e.1⟩;intro t u hu;rw[PT.bN]at hu;simp only[cU];by_cases hd:d=t
  ·grind
  ·rw[iQ hd]at hu;rw[iQ (by grind)];exact h t u hu
theorem Oe {o:Op} (hl:gR P o=true):V2 o=true∨Yj P o=true:=by simp_all[gR,Bool.or_eq_true]
theorem qj6 {o:Op} (hl:Yj P o=true):∃t x lo hi mx,o=.slice t x lo hi mx:=by
 cases o<;>first |exact⟨_,_,_,_,_,rfl⟩ |cases hl
theorem qyD {o:Op} (hl:gR P o=true):xj P o=false:=by
 rcases Oe hl with h |h
 ·obtain⟨t,x,rfl⟩:=GX h;rfl
 ·obtain⟨t,x,lo,hi,mx,rfl⟩:=qj6 h;rfl
theorem qv3 {tm:PT AV} {F:Nat→Option AV} (T:Qh tm F) {o:Op} {a:AV} (h:Yu (ev tm) o=some a):Yu (iM F) o=some a:=by
 cases o<;>first |exact PN T _ _ h |cases h
theorem qzT {F:Nat→Option AV} {h h':AH} {o:Op} {v:AV} (e:dt P c o (iM F) h=some (v,h')) (hl:gR P o=true):∃a,Yu (iM F) o=some a:=by
 rcases Oe hl with hl |hl
 ·obtain⟨t,x,rfl⟩:=GX hl;obtain⟨_,b,off,hx,_⟩:=Ny e;exact⟨_,hx⟩
 ·obtain⟨_,x,_,u,_,hu,_⟩:=ZL hl e;simp_all
theorem N9 {F:Nat→Option AV} {dst:Option Tmp} {v:AV} {d:Nat} (h:dst≠some d):cU F dst v d=F d:=by simp_all[cU]
abbrev LT:Yz→Prop:=λ_=>True
abbrev HT:Xx→Prop:=λ_=>True
theorem qkE {g:Option (Nat×Bool)} {r:AV×AH}:∀(l:List Oper) (j:Nat) (tm:PT AV) (F:Nat→Option AV) (h:AH) (k:PT AV→AH→R),
  (∀i o,l[i]? =some o→ops[j+i]? =some o∧o.guard=g)→
  (∀q,g=some q→∃d vg,(∀o:Oper,o.guard=some q→QC ops.toList o=some d)∧writes d l=false∧F d=some vg∧QU vg q.2=true)→
  Qh tm F→Es P c n l tm h k=some r→∃tm' h' F',k tm' h'=some r∧Qh tm' F'∧nU P c n ops LT HT j F h (j+l.length) F' h':=by
 intro l
 induction l with
 |nil=>intro j tm F h k _ _ T e;exact⟨tm,h,F,e,T,.nil _ _ _⟩
 |cons o l ih=>
  intro j tm F h k hl hg T e;simp only[Es]at e;obtain⟨v,h1,e1,e⟩:=YO e;have e1:=ML (PN T) e1;obtain⟨cP,e,T1,hd⟩:=K3 T e;obtain⟨ho,rP⟩:=hl 0 o rfl
  obtain⟨tm',h',F',e',T',S⟩:=ih (j+1) cP _ h1 k (λi o' hi=>by have:=hl (i+1) o' hi;rwa [show j+(i+1)=j+1+i by omega]at this) (by
   intro q hq;obtain⟨d,vg,g1,g2,g3,g4⟩:=hg q hq;refine⟨d,vg,g1,?_,?_,g4⟩
   ·simp only[writes,Bool.or_eq_false_iff]at g2;exact g2.2
   ·rw[N9 (Gx g2 o (iK ..))];omega) T1 e
  refine⟨tm',h',F',e',T',?_⟩;rw[show j+(o::l).length=j+1+l.length by simp;omega];refine .cons j o F h v true h1 _ _ _ ho ⟨λ_=>e1,(λhh=>by cases hh),λ_=>rfl,?_,hd,?_,λ_ _=>trivial⟩ S
  ·intro q hq;rw[rP]at hq;obtain⟨d,vg,g1,g2,g3,g4⟩:=hg q hq;exact⟨d,vg,g1 o (by rw[rP,hq]),g3,g4.symm⟩
  ·intro _ td;obtain⟨a,ha⟩:=qzT e1 td;exact⟨a,ha,trivial⟩
theorem qYA {q:Nat×Bool} {d:Nat} {vg:AV} {h:AH} {r:AV×AH}:∀(l:List Oper) (j:Nat) (tm:PT AV) (F:Nat→Option AV) (k:PT AV→R),
  (∀i o,l[i]? =some o→ops[j+i]? =some o∧o.guard=some q)→
  (∀o:Oper,o.guard=some q→QC ops.toList o=some d)→writes d l=false→F d=some vg→QU vg q.2=false→
  Qh tm F→Mz n l tm k=some r→∃tm' F',k tm'=some r∧Qh tm' F'∧nU P c n ops LT HT j F h (j+l.length) F' h:=by
 intro l
 induction l with
 |nil=>intro j tm F k _ _ _ _ _ T e;exact⟨tm,F,e,T,.nil _ _ _⟩
 |cons o l ih=>
  intro j tm F k hl nB hw hF BE T e;simp only[Mz]at e;obtain⟨cP,e,T1,hd⟩:=K3 T e;obtain⟨ho,rP⟩:=hl 0 o rfl;have bY:=Gx hw;obtain⟨tm',F',e',T',S⟩:=ih (j+1) cP _ k (λi o' hi=>by have:=hl (i+1) o' hi;grind) nB
   (by grind[writes,Bool.or_eq_false_iff]) (by simp_all[N9]) BE T1 e
  refine⟨tm',F',e',T',?_⟩;rw[show j+(o::l).length=j+1+l.length by grind];refine .cons j o F h .undef false h _ _ _ ho ⟨(λhh=>by grind),λ_=>⟨rfl,rfl⟩,(λhh=>by grind),?_,hd,(λhh=>by grind),(λhh=>by simp)⟩ S;grind
theorem jJt {tm:PT AV} {F:Nat→Option AV} (T:Qh tm F):∀(L:List Nat) (acc:PT AV),Qh acc F→yA tm L=true→Qh (kD L (wa L tm) acc) F:=by
 intro L
 induction L with
 |nil=>intro acc A _;exact A
 |cons t L ih=>
  intro acc A hh;simp only[yA,Bool.and_eq_true]at hh;simp only[wa,kD];refine ih _ ?_ hh.2;have h1:=hh.1;unfold has at h1
  split at h1
  ·rename_i v hv;intro s u hs;rw[PT.bN]at hs;by_cases e:t=s
   ·subst e;rw[iJ rfl]at hs;cases hs;exact T t v hv
   ·rw[iQ e]at hs;exact A s u hs
  grind
theorem qWS {tm:PT AV} {F:Nat→Option AV} (T:Qh tm F) (L:List Nat) (hh:yA tm L=true):Qh (kD L (wa L tm) .e) F:=jJt T L .e (λt v hv=>by trivial) hh
theorem Mv {v:AV} {w:Bool} {a b:R} {r:AV×AH} (e:JB v w a b=some r):(QU v w=true∧a=some r)∨(QU v w=false∧b=some r):=by
 rw[MX]at e
 split at e
 ·rename_i t;simp only[QU];grind
 ·rename_i hn;refine .inr ⟨?_,e⟩;cases v<;>first |rfl |grind
theorem qxS {r:AV×AH}:∀(f:Nat) (l:List Oper) (j:Nat) (Ls:List (List Nat)) (tm:PT AV) (F:Nat→Option AV) (h:AH) (k:PT AV→AH→R),
  (∀i o,l[i]? =some o→ops[j+i]? =some o)→Qh tm F→G8 P c n ops.toList f l Ls tm h k=some r→
  ∃tm' h' F',k tm' h'=some r∧Qh tm' F'∧nU P c n ops LT HT j F h (j+l.length) F' h':=by
 intro f
 induction f with
 |zero=>
  intro l j Ls tm F h k hl T e;cases l with
  |nil=>exact⟨tm,h,F,e,T,.nil _ _ _⟩
  |cons o l=>grind
 |succ f ih=>
  intro l j Ls tm F h k hl T e;cases l with
  |nil=>exact⟨tm,h,F,e,T,.nil _ _ _⟩
  |cons o l=>
   cases hg:o.guard with
   |none=>simp only[G8,hg]at e;obtain⟨v,h1,e1,e⟩:=YO e;have e1:=ML (PN T) e1;obtain⟨cP,e,T1,hd⟩:=K3 T e;obtain⟨tm',h',F',e',T',S⟩:=ih l (j+1) Ls cP _ h1 k (λi o' hi=>by have:=hl (i+1) o' hi;rwa [show j+(i+1)=j+1+i by omega]at this) T1 e;refine⟨tm',h',F',e',T',?_⟩;rw[show j+(o::l).length=j+1+l.length by simp;omega];refine .cons j o F h v true h1 _ _ _ (hl 0 o rfl) ⟨λ_=>e1,(λhh=>by cases hh),λ_=>rfl,(λq hq=>by simp_all),hd,?_,λ_ _=>trivial⟩ S;intro _ td;obtain⟨a,ha⟩:=qzT e1 td;simp_all
   |some g=>
    simp only[G8,hg,qD]at e;obtain⟨d,hd,vg,u6,e⟩:=e;cases Ls with
    |nil=>grind
    |cons L Bl=>
     simp only[Oq]at e;obtain⟨nA,e⟩:=e;have nB:∀o':Oper,o'.guard=some g→QC ops.toList o'=some d:=by simp_all[QC]
     have hF:=T d vg u6;have lB:o::l=(o::(xQ g l).1)++(xQ g l).2:=by rw[List.cons_append,ZY]
     have lL:∀i o',(o::(xQ g l).1)[i]? =some o'→ops[j+i]? =some o'∧o'.guard=some g:=by
      intro i o' hi;refine⟨hl i o' ?_,?_⟩
      ·rw[lB,List.getElem?_append_left (List.getElem?_eq_some_iff.1 hi).1];omega
      ·rcases List.mem_cons.1 (List.mem_of_getElem? hi)with rfl |hm
       ·omega
       ·exact qGs g l o' hm
     have iC:∀i o',(xQ g l).2[i]? =some o'→ops[j+(o::(xQ g l).1).length+i]? =some o':=by intro i o' hi;rw[Nat.add_assoc];refine hl _ o' ?_;rw[lB,List.getElem?_append_right omQ];simp;omega
     have hlen:j+(o::l).length=j+(o::(xQ g l).1).length+(xQ g l).2.length:=by have:=congrArg List.length lB;simp at*;omega
     have fin:∀cP h1 F1,Qh cP F1→nU P c n ops LT HT j F h (j+(o::(xQ g l).1).length) F1 h1→
       cK (yA cP L) (G8 P c n ops.toList f (xQ g l).2 Bl (kD L (wa L cP) .e) h1 k) none=some r→
       ∃tm' h' F',k tm' h'=some r∧Qh tm' F'∧nU P c n ops LT HT j F h (j+(o::l).length) F' h':=by
      intro cP h1 F1 T1 S1 e1;rw[zM]at e1;obtain⟨tm',h',F',e',T',S⟩:=ih (xQ g l).2 _ Bl _ F1 h1 k iC (qWS T1 L e1.1) e1.2;refine⟨tm',h',F',e',T',?_⟩;rw[hlen];exact S1.trans S
     simp only[vL]at e;rcases Mv e with⟨hw,e⟩ |⟨hw,e⟩
     ·obtain⟨cP,h1,F1,e1,T1,S1⟩:=qkE (o::(xQ g l).1) j tm F h _ lL (by
       intro q hq;cases hq;exact⟨d,vg,nB,nA,hF,hw⟩) T e
      exact fin cP h1 F1 T1 S1 e1
     ·obtain⟨cP,F1,e1,T1,S1⟩:=qYA (P:=P) (c:=c) (h:=h) (o::(xQ g l).1) j tm F _ lL nB nA hF hw T e;exact fin cP h F1 T1 S1 e1
def uE (kn:List (Nat×Bool×Bool)) (F:Nat→Option AV):Prop:=∀x∈kn,∃v,F x.1=some v∧QU v x.2.1=x.2.2
theorem qx5 {kn:List (Nat×Bool×Bool)} {F:Nat→Option AV} {d:Nat} {w t:Bool} {v:AV} (K:uE kn F) (hv:F d=some v) (e:OD kn d w=some t):QU v w=t:=by
 induction kn with
 |nil=>cases e
 |cons x r ih=>
  obtain⟨u,h1,h2⟩:=K x (iK ..);unfold OD at e;cases h3:(Nat.beq x.1 d&&(x.2.1==w))
  ·rw[h3,cond_false]at e;cases h4:(Nat.beq x.1 d&&x.2.2)
   ·rw[h4,cond_false]at e;exact ih (λy hy=>K y (iX _ hy)) e
   ·rw[h4,cond_true]at e;cases e;rw[Bool.and_eq_true]at h4;have hd:=Nat.eq_of_beq_eq_true h4.1;rw[hd,hv]at h1;cases h1;rw[h4.2]at h2;rw[h4.1,Bool.true_and]at h3;cases v with
    |bool b=>simp_all[QU,beq_iff_eq]
    |_=>rfl
  simp_all
theorem uE.drop {kn:List (Nat×Bool×Bool)} {F:Nat→Option AV} {dst:Option Tmp} {v:AV} (K:uE kn F):uE (cV dst kn) (cU F dst v):=by
 induction kn with
 |nil=>nofun
 |cons x r ih=>
  have ihr:=ih λy hy=>K y (iX _ hy);unfold cV;cases hb:CC dst x.1
  ·rw[cond_false];intro y hy;rcases List.mem_cons.1 hy with rfl |hy
   ·obtain⟨u,h1,h2⟩:=K y (iK ..);refine⟨u,?_,h2⟩;simp only[cU];rw[iQ ?_]
    all_goals grind[CC,Nat.beq_refl]
   ·exact ihr y hy
  grind
theorem qKr {kn:List (Nat×Bool×Bool)} {F:Nat→Option AV} {d:Nat} {w:Bool} {v:AV} {a b:R} {r:AV×AH} (K:uE kn F) (hv:F d=some v) (e:jQt (OD kn d w) v w a b=some r):(QU v w=true∧a=some r)∨(QU v w=false∧b=some r):=by
 grind[OD,Mv,qx5]
theorem uE.more {kn:List (Nat×Bool×Bool)} {F:Nat→Option AV} {d:Nat} {w t:Bool} {v:AV} (K:uE kn F) (hv:F d=some v) (hw:QU v w=t):uE ((d,w,t)::kn) F:=by
 intro x hx;rcases List.mem_cons.1 hx with rfl |hx
 ·grind
 ·exact K x hx
theorem qzU {r:AV×AH}:∀(l:List Oper) (j:Nat) (kn:List (Nat×Bool×Bool)) (tm:PT AV) (F:Nat→Option AV) (h:AH) (ls:List Yz) (hs:List Xx) (k:PT AV→AH→List Yz→List Xx→R),
  (∀i o,l[i]? =some o→ops[j+i]? =some o)→Qh tm F→uE kn F→Kl P c n ops.toList l j kn tm h ls hs k=some r→
  ∃tm' h' F' nV fi,k tm' h' nV fi=some r∧Qh tm' F'∧(∀x∈ls,x∈nV)∧(∀x∈hs,x∈fi)∧∀(LP:Yz→Prop) (HP:Xx→Prop),(∀x∈nV,LP x)→(∀x∈fi,HP x)→nU P c n ops LP HP j F h (j+l.length) F' h':=by
 intro l
 induction l with
 |nil=>intro j kn tm F h ls hs k _ T _ e;exact⟨tm,h,F,ls,hs,e,T,λ_ h=>h,λ_ h=>h,λ_ _ _ _=>.nil _ _ _⟩
 |cons o l ih=>
  intro j kn tm F h ls hs k hl T KN e;have fO:∀i o',l[i]? =some o'→ops[j+1+i]? =some o':=λi o' hi=>by have:=hl (i+1) o' hi;rwa [show j+(i+1)=j+1+i by omega]at this
  have ho:=hl 0 o rfl;have yes:∀(HE:List (Nat×Bool×Bool)) (PO:uE HE F) (PP:∀g,o.guard=some g→∃d vg,QC ops.toList o=some d∧F d=some vg∧true=QU vg g.2),
    aX P c o.op (ev tm) h (λv h'=>M4 n tm o.dst v λtm'=>
     cK (gR P o.op) (ob (Yu (ev tm) o.op) λa=>Kl P c n ops.toList l (j+1) (cV o.dst HE) tm' h' (⟨j,a,wF P o.op,v⟩::ls) hs k) (cK (xj P o.op) (Kl P c n ops.toList l (j+1) (cV o.dst HE) tm' h' ls (⟨j,h,h'⟩::hs) k) (Kl P c n ops.toList l (j+1) (cV o.dst HE) tm' h' ls hs k)))=some r→
    ∃tm' h' F' nV fi,k tm' h' nV fi=some r∧Qh tm' F'∧(∀x∈ls,x∈nV)∧(∀x∈hs,x∈fi)∧∀(LP:Yz→Prop) (HP:Xx→Prop),(∀x∈nV,LP x)→(∀x∈fi,HP x)→nU P c n ops LP HP j F h (j+(o::l).length) F' h':=by
   intro HE PO PP e;obtain⟨v,h1,e1,e⟩:=YO e;have e1:=ML (PN T) e1;obtain⟨cP,e,T1,hd⟩:=K3 T e;rw[show j+(o::l).length=j+1+l.length by simp;omega];cases td:gR P o.op
   ·rw[td]at e;simp only[cK]at e;cases HF:xj P o.op
    ·rw[HF]at e;simp only[]at e;obtain⟨tm',h',F',nV,fi,e',T',s1,s2,S⟩:=ih (j+1) _ cP _ h1 ls hs k fO T1 PO.drop e;refine⟨tm',h',F',nV,fi,e',T',s1,s2,λLP HP hL hH=>?_⟩;exact .cons j o F h v true h1 _ _ _ ho ⟨λ_=>e1,(λhh=>by cases hh),λ_=>rfl,PP,hd,(λ_ hh=>by simp_all),(λ_ hh=>by simp_all)⟩ (S LP HP hL hH)
    ·rw[HF]at e;simp only[]at e;obtain⟨tm',h',F',nV,fi,e',T',s1,s2,S⟩:=ih (j+1) _ cP _ h1 ls _ k fO T1 PO.drop e;refine⟨tm',h',F',nV,fi,e',T',s1,λx hx=>s2 x (iX _ hx),λLP HP hL hH=>?_⟩;exact .cons j o F h v true h1 _ _ _ ho ⟨λ_=>e1,(λhh=>by cases hh),λ_=>rfl,PP,hd,(λ_ hh=>by simp_all),λ_ _=>hH _ (s2 _ (iK ..))⟩ (S LP HP hL hH)
   ·rw[td]at e;simp only[cK,qD]at e;obtain⟨a,ha,e⟩:=e;obtain⟨tm',h',F',nV,fi,e',T',s1,s2,S⟩:=ih (j+1) _ cP _ h1 _ hs k fO T1 PO.drop e;have ha':Yu (iM F) o.op=some a:=qv3 T ha;refine⟨tm',h',F',nV,fi,e',T',λx hx=>s1 x (iX _ hx),s2,λLP HP hL hH=>?_⟩;refine .cons j o F h v true h1 _ _ _ ho ⟨λ_=>e1,(λhh=>by cases hh),λ_=>rfl,PP,hd,λ_ _=>⟨a,ha',hL _ (s1 _ (iK ..))⟩,?_⟩ (S LP HP hL hH);simp_all[qyD]
  cases hg:o.guard with
  |none=>simp only[Kl,hg]at e;exact yes kn KN (λg hh=>by simp_all) e
  |some g=>
   simp only[Kl,hg,qD]at e;obtain⟨d,hd,vg,u6,e⟩:=e;rcases qKr KN (T d vg u6) e with⟨hw,e⟩ |⟨hw,e⟩
   ·exact yes _ (KN.more (T d vg u6) hw) (λg' hh=>by rw[hg]at hh;cases hh;exact⟨d,vg,hd,T d vg u6,hw.symm⟩) e
   ·obtain⟨cP,e,T1,te⟩:=K3 T e;obtain⟨tm',h',F',nV,fi,e',T',s1,s2,S⟩:=ih (j+1) _ cP _ h ls hs k fO T1 (KN.more (T d vg u6) hw).drop e;refine⟨tm',h',F',nV,fi,e',T',s1,s2,λLP HP hL hH=>?_⟩;rw[show j+(o::l).length=j+1+l.length by simp;omega];refine .cons j o F h .undef false h _ _ _ ho ⟨(λhh=>by cases hh),λ_=>⟨rfl,rfl⟩,(λhh=>by simp_all),?_,te,(λhh=>by cases hh),(λhh=>by cases hh)⟩ (S LP HP hL hH);intro g' hh;rw[hg]at hh;cases hh;exact⟨d,vg,hd,T d vg u6,hw.symm⟩
end Go.Ae
namespace Go.Ae
open Go
variable {P:Program} {c:CV}
theorem qV5 (hc:vK P c) {o:Oper} {r:Operand→Option AV} {h h':AH} {v:AV} {m:Mp} {D:Nat→Prop} {w:World} (hr:∀x v,r x=some v→br D v) (RR:Rel P m D h w)
  (e:dt P c o.op r h=some (v,h')):∃m' D' w',Ext m D h w m' D' h' w'∧Rel P m' D' h' w'∧br D' v:=by
 let ρ:Operand→Value:=λx=>match r x with |some v=>cv m v |none=>undef
 have hρ:dR m D ρ r:=λx u hu=>⟨by grind,hr x u hu⟩;by_cases hv:∃cl f,o.op=.call cl∧cl.callee=.value f
 ·obtain⟨cl,f,ho,ij⟩:=hv;unfold dt at e;rw[ho]at e;simp only[aX,ij,qD]at e;obtain⟨vf,Bv,va,sZ,e⟩:=e;obtain⟨f1,f2⟩:=hρ _ _ Bv;obtain⟨v1,v2⟩:=Jg hρ sZ;rw[JH]at e
  split at e
  ·rename_i q hq;simp only[Option.some.injEq,Prod.mk.injEq]at e;obtain⟨rfl,rfl⟩:=e;have cH:=hc vf va h q hq m D w RR f2 v2;cases vf<;>simp only[PG]at cH
   case fn f' first cap=>obtain⟨e,w',fr,hR,_⟩:=(cH.2 0).2 [] (room_wide _);obtain⟨m',D',_,hx,fQ,hd⟩:=hR;grind
   case yield l=>obtain⟨f',tmps,assign,body,k1,k2⟩:=cH;obtain⟨e,w',hR,_⟩:=(k2 0).2 default [] (room_wide _);obtain⟨m',D',_,hx,fQ,hd⟩:=hR;grind
  grind
 ·have He:∀cl f,o.op=.call cl→cl.callee≠.value f:=λcl f h1 h2=>hv ⟨cl,f,h1,h2⟩;by_cases hi:∃cl x name,o.op=.call cl∧cl.callee=.invoke x name
  ·obtain⟨cl,x,name,ho,ij⟩:=hi;unfold dt at e;rw[ho]at e;simp only[aX,ij,qD]at e;obtain⟨vx,uZ,va,sZ,e⟩:=e;obtain⟨f1,f2⟩:=hρ _ _ uZ;obtain⟨v1,v2⟩:=Jg hρ sZ;unfold JT at e
   split at e
   ·rename_i t y;cases hf:Zz (Si P name) t with
    |none=>simp_all
    |some f=>
     rw[hf]at e;simp only[JH]at e
     split at e
     ·rename_i q hq;simp only[Option.some.injEq,Prod.mk.injEq]at e;obtain⟨rfl,rfl⟩:=e;have cH:=hc (.fn f [] []) (y::va) h q hq m D w RR ⟨trivial,trivial⟩ ⟨f2,v2⟩;obtain⟨e,w',fr,hR,_⟩:=(cH.2 0).2 [] (room_wide _);obtain⟨m',D',_,hx,fQ,hd⟩:=hR;grind
     grind
   grind
  have lJ:∀cl x n,o.op=.call cl→cl.callee≠.invoke x n:=λcl x n h1 h2=>hi ⟨cl,x,n,h1,h2⟩;obtain⟨m',D',w',_,ex,re,hd⟩:=jQ7 (o:=o) He lJ hρ RR e;grind
def Dg (D:Nat→Prop) (H:Nat→AH) (i:Nat):Nat→Prop:=λb=>D b∨((H 0).nx≤b∧b<(H i).nx)
theorem Ext.tf {m m':Mp} {D D':Nat→Prop} {h h':AH} {w w':World} (e:Ext m D h w m' D' h' w'):D'=λb=>D b∨(h.nx≤b∧b<h'.nx):=funext λb=>propext (e.dm b)
structure Gh (P:Program) (D:Nat→Prop) (H:Nat→AH) (F:Nat→Nat→Option AV) (i:Nat):Prop where
  nx:(H 0).nx≤(H i).nx
  un:∀b,b<(H 0).nx→¬D b→(H i).get b=(H 0).get b
  bR:∀b,Dg D H i b→∃x,(H i).get b=some x∧cM (Dg D H i) x
  slot:∀t v,F i t=some v→br (Dg D H i) v
  ni:∀b t,Dg D H i b→(H i).get b=some (.dh t)→D b∧(H 0).get b=some (.dh t)
theorem jQb {D:Nat→Prop} {F:Nat→Option AV} (hF:∀t v,F t=some v→br D v):∀x v,iM F x=some v→br D v:=by
 intro x v e;cases x with
 |tmp t=>exact hF t v e
 |const k=>exact(XQ (m:=λ_=>(0,0)) (D:=D) e).2
 |global g=>cases e
 |func f=>cases e;trivial
theorem qZe (hc:vK P c) {n:Nat} {ops:Array Oper} {LP:Yz→Prop} {HP:Xx→Prop} {F:Nat→Nat→Option AV} {H:Nat→AH} {V:Nat→AV} {W:Nat→Bool}
  (T:Tr P c n ops LP HP F H V W) {m:Mp} {D:Nat→Prop} {w:World} (RR:Rel P m D (H 0) w) (h0:∀t v,F 0 t=some v→br D v) :
  ∀i,i≤ops.size→(∃m' w',Ext m D (H 0) w m' (Dg D H i) (H i) w'∧Rel P m' (Dg D H i) (H i) w'∧∀t v,F i t=some v→br (Dg D H i) v)∧(∀j,j<i→(H j).nx≤(H (j+1)).nx∧br (Dg D H (j+1)) (V j)):=by
 intro i
 induction i with
 |zero=>intro _;have hD:Dg D H 0=D:=funext λb=>propext ⟨λh=>h.elim id λh=>by omega,.inl⟩;grind[Ext.refl]
 |succ i ih=>
  intro hi;obtain⟨⟨m1,w1,X1,R1,s1⟩,hb⟩:=ih omQ;obtain⟨o,ho⟩:∃o,ops[i]? =some o:=⟨_,Array.getElem?_eq_getElem omQ⟩;obtain⟨st,hF⟩:=T.step i o ho;have key:∃m' w',Ext m1 (Dg D H i) (H i) w1 m' (Dg D H (i+1)) (H (i+1)) w'∧Rel P m' (Dg D H (i+1)) (H (i+1)) w'∧br (Dg D H (i+1)) (V i):=by
   cases hw:W i with
   |true=>
    obtain⟨m',D',w',X,R',hv⟩:=qV5 hc (o:=o) (jQb s1) R1 (st.yes hw);have hD:D'=Dg D H (i+1):=by
     rw[X.tf];have:=X1.nx;have:=X.nx
     funext b
     simp only[Dg,eq_iff_iff];grind
    grind
   |false=>
    obtain⟨e1,e2⟩:=st.no hw;have hD:Dg D H (i+1)=Dg D H i:=by grind[Dg]
    rw[hD,e2,e1];exact⟨m1,w1,Ext.refl ..,R1,trivial⟩
  obtain⟨m2,w2,X2,R2,hv⟩:=key;refine⟨⟨m2,w2,X1.trans X2,R2,?_⟩,?_⟩
  ·intro t v ht;rw[hF]at ht;unfold cU at ht
   split at ht
   ·grind
   ·exact X2.br (s1 t v ht)
  ·intro j hj;by_cases Tq:j=i
   ·subst Tq;exact⟨X2.nx,hv⟩
   grind
theorem qzN (hc:vK P c) {n:Nat} {ops:Array Oper} {LP:Yz→Prop} {HP:Xx→Prop} {F:Nat→Nat→Option AV} {H:Nat→AH} {V:Nat→AV} {W:Nat→Bool}
  (T:Tr P c n ops LP HP F H V W) {m:Mp} {D:Nat→Prop} {w:World} (RR:Rel P m D (H 0) w) (h0:∀t v,F 0 t=some v→br D v) {i:Nat} (hi:i≤ops.size):Gh P D H F i:=by
 obtain⟨⟨m',w',X,R',s⟩,_⟩:=qZe hc T RR h0 i hi;refine⟨X.nx,λb hb hn=>(X.un b hb hn).1,?_,s,X.ni⟩;intro b hb;obtain⟨x,hx,_,hd⟩:=R'.bR b hb;grind
end Go.Ae
