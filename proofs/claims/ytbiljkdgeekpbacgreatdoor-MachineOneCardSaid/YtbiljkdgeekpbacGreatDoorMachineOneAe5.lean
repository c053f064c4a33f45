/- The abstract executor of the program's form in Lean, shown sound: regions that draw their order: what an operation looks at; the walk in the text's order. -/
import Derived.Test.YtbiljkdgeekpbacGreatDoorMachineOneAe4
namespace Go.Ae
open Go
variable {P:Program} {c:CV} {r r':Operand→Option AV} {h h':AH} {v:AV}
theorem wm {l:List Operand} (hr:∀x∈l,r x=r' x):wV r l=wV r' l:=by
 induction l with
 |nil=>rfl
 |cons a l ih=>simp only[wV,hr a (iK ..),ih λx hx=>hr x (iX _ hx)]
theorem Yd {pl:Nat→Option (Nat×Nat)} {l:List (Nat×Operand)} (hr:∀x∈l.map (·.2),r x=r' x):yG pl r l=yG pl r' l:=by
 induction l with
 |nil=>rfl
 |cons a l ih=>obtain⟨i,x⟩:=a;simp only[yG,hr x osQ,ih λx hx=>hr x (by simp at hx ⊢;exact .inr hx)]
theorem Vl {x:Option Operand} (hr:∀y∈x,r y=r' y):Y9 r x=Y9 r' x:=by
 cases x with
 |none=>rfl
 |some x=>simp only[Y9,hr x rfl]
theorem qGC {o:Op} {k:AV→AH→R} (hr:∀x∈o.operands,r x=r' x):opK P c o r h k=opK P c o r' h k:=by
 cases o with
 |call cl=>
  have ha:∀x∈cl.args.toList,r x=r' x:=λx hx=>hr x (by simp only[Op.operands,Call.operands];simp at hx ⊢;exact .inr hx);cases hc:cl.callee with
  |value f=>have hf:r f=r' f:=hr f (by simp[Op.operands,Call.operands,hc]);simp only[opK,hc,hf,wm ha]
  |invoke x name=>have hx:r x=r' x:=hr x (by simp[Op.operands,Call.operands,hc]);simp only[opK,hc,hx,wm ha]
  |builtin b=>
   cases b<;>simp only[opK,hc]
   case len=>
    generalize cl.argTypes.toList=ts at*;revert ha;generalize cl.args.toList=xs;intro ha;rcases xs with _ |⟨x,xs⟩<;>rcases ts with _ |⟨t,ts⟩<;>simp only[]
    rw[ha x (iK ..)]
   case min=>rw[wm ha]
   case max=>rw[wm ha]
   case append=>
    generalize cl.argTypes.toList=ts at*;revert ha;generalize cl.args.toList=xs;intro ha;rcases xs with _ |⟨s,_ |⟨x,_ |⟨y,xs⟩⟩⟩<;>rcases ts with _ |⟨t,_ |⟨u,ts⟩⟩<;>simp only[]
    rw[ha s osQ,ha x osQ]
   case copy=>
    generalize cl.argTypes.toList=ts at*;revert ha;generalize cl.args.toList=xs;intro ha;rcases xs with _ |⟨s,_ |⟨x,_ |⟨y,xs⟩⟩⟩<;>rcases ts with _ |⟨t,ts⟩<;>simp only[]
    rw[ha s osQ,ha x osQ]
   case delete=>
    generalize cl.argTypes.toList=ts at*;revert ha;generalize cl.args.toList=xs;intro ha;rcases xs with _ |⟨s,_ |⟨x,_ |⟨y,xs⟩⟩⟩<;>rcases ts with _ |⟨t,ts⟩<;>simp only[]
    rw[ha s osQ,ha x osQ]
 |build t ps=> 
  have hp:∀pl,yG pl r ps.toList=yG pl r' ps.toList:=λpl=>Yd λx hx=>hr x (by simpa[Op.operands]using hx);simp only[opK,hp]
 |buildSlice t n ps=> 
  have hp:∀pl,yG pl r ps.toList=yG pl r' ps.toList:=λpl=>Yd λx hx=>hr x (by simpa[Op.operands]using hx);simp only[opK,hp]
 |makeFunc fn a cp=>have h1:wV r a.toList=wV r' a.toList:=wm λx hx=>hr x (by simp[Op.operands]at hx ⊢;exact .inl hx);have h2:wV r cp.toList=wV r' cp.toList:=wm λx hx=>hr x (by simp[Op.operands]at hx ⊢;exact .inr hx);simp only[opK,h1,h2]
 |slice t x lo hi mx=>have h1:=hr x (by simp[Op.operands]);have h2:Y9 r lo=Y9 r' lo:=Vl λy hy=>hr y (by simp[Op.operands];right;left;simpa using hy);have h3:Y9 r hi=Y9 r' hi:=Vl λy hy=>hr y (by simp[Op.operands];right;right;left;simpa using hy);simp only[opK,h1,h2,h3]
 |_=>
  simp only[opK]
  try simp only[Op.operands,List.mem_toArray,List.mem_cons,List.not_mem_nil,or_false,forall_eq_or_imp,forall_eq]at hr
  try simp only[hr]
end Go.Ae
namespace Go.Ae
open Go
variable {P:Program} {c:CV} {r:Operand→Option AV} {h h':AH} {v:AV} {o:Op}
theorem qvT (hp:cls P o=.pure) (hc:J6 P o=false) (g:AH) (k:AV→AH→R):opK P c o r g k=opK P c o r h (λv _=>k v g):=by
 cases o with
 |convert s d x=>
  simp only[cls]at hp;simp only[opK,MD];refine qb λv=>?_;cases hs:P.underlying s with
  |none=>rfl
  |some ds=>
   cases hd:P.underlying d with
   |none=>rfl
   |some dd=>
    rw[hs,hd]at hp;cases dd with
    |int k=>cases ds<;>rfl
    |string=>cases ds<;>first |rfl |(simp only[reduceCtorEq]at hp;done)
    |_=>first |(simp only[reduceCtorEq]at hp;done) |rfl
 |slice t x lo hi mx=>
  simp only[J6]at hc;cases mx with
  |some _=>rfl
  |none=>
   simp only[opK];refine qb λ_=>qb λ_=>qb λ_=>?_;cases hu:P.underlying t with
   |none=>rfl
   |some d=>cases d<;>first |rfl |(rw[hu]at hc;cases hc)
 |call cl=>
  simp only[cls]at hp;cases hcl:cl.callee with
  |value f=>rw[hcl]at hp;cases hp
  |invoke a b=>rw[hcl]at hp;cases hp
  |builtin b=> 
   rw[hcl]at hp;cases b
   case len=>
    simp only[opK,hcl];simp only[]at hp;cases cl.args.toList with
    |nil=>rfl
    |cons x xs=>
     cases hts:cl.argTypes.toList with
     |nil=>rfl
     |cons t ts=>
      rw[hts]at hp;simp only[]at hp ⊢;refine qb λv=>?_;cases hu:P.underlying t with
      |none=>rfl
      |some d=>rw[hu]at hp;cases d<;>first |rfl |cases hp
   all_goals first |(simp only[opK,hcl];done) |cases hp
 |_=>first |rfl |(simp only[cls,reduceCtorEq]at hp;done) |skip
theorem qJ2 (hp:cls P o=.pure) (hc:J6 P o=false) (e:opS P c o r h=some (v,h')):h'=h∧∀g,opS P c o r g=some (v,g):=by
 have key:∀g,opS P c o r g=some (v,g):=by intro g;unfold opS;rw[qvT hp hc (h:=h),qVm,show opS P c o r h=some (v,h')from e];rfl
 refine⟨?_,key⟩;have:=key h;rw[e]at this;cases this;rfl
def qWL (mk:Nat→AV):Prop:=mk=(λb=>.ptr b 0)∨∃l k,mk=λb=>.slice b 0 l k false
theorem NY (hp:cls P o=.fresh) (e:opS P c o r h=some (v,h')):∃mk x,qWL mk∧v=mk h.nx∧h'=h.new x∧∀g,opS P c o r g=some (mk g.nx,g.new x):=by
 have box:∀(t:TypeId) (u:AV),gi h t u (λv h'=>some (v,h'))=some (v,h')→∃mk x,qWL mk∧v=mk h.nx∧h'=h.new x∧∀g,gi g t u (λv h'=>some (v,h'))=some (mk g.nx,g.new x):=by intro t u e;unfold gi at e;simp only[jY]at e;obtain⟨h1,e⟩:=e;cases e;exact⟨λb=>.ptr b 0,_,.inl rfl,rfl,rfl,λg=>by unfold gi;rw[h1];rfl⟩
 cases o with
 |alloc t=>unfold opS at e ⊢;simp only[opK,qH]at e ⊢;obtain⟨z,hz,e⟩:=e;obtain⟨mk,x,h1,h2,h3,h4⟩:=box _ _ e;exact⟨mk,x,h1,h2,h3,λg=>⟨z,hz,h4 g⟩⟩
 |box t y=>unfold opS at e ⊢;simp only[opK,qH]at e ⊢;obtain⟨z,hz,e⟩:=e;obtain⟨mk,x,h1,h2,h3,h4⟩:=box _ _ e;exact⟨mk,x,h1,h2,h3,λg=>⟨z,hz,h4 g⟩⟩
 |buildSlice t n ps=>
  unfold opS at e ⊢;simp only[opK,qH]at e ⊢;obtain⟨d,hd,e⟩:=e;cases d<;>simp only[reduceCtorEq]at e
  rename_i el;simp only[qH,jt]at e;obtain⟨z,hz,hle,vs,hvs,e⟩:=e;unfold xX at e;simp only[qH,jY]at e;obtain⟨cs,hcs,h1,e⟩:=e;cases e;refine⟨λb=>.slice b 0 n n false,_,.inr ⟨n,n,rfl⟩,rfl,rfl,λg=>⟨_,hd,?_⟩⟩;simp only[qH,jt];refine⟨z,hz,hle,vs,hvs,?_⟩;unfold xX;simp only[qH,jY];exact⟨cs,hcs,h1,rfl⟩
 |makeSlice t a b=>
  unfold opS at e ⊢;simp only[opK,qH]at e ⊢;obtain⟨d,hd,e⟩:=e;cases d<;>simp only[reduceCtorEq]at e
  rename_i el;simp only[qH]at e;obtain⟨z,hz,va,hva,vb,hvb,e⟩:=e;unfold Qv at e
  split at e
  rotate_left
  ·cases e
  rename_i k1 ln k2 cp;simp only[jY]at e;obtain⟨h1,e⟩:=e;cases e;refine⟨λb=>.slice b 0 ln cp false,_,.inr ⟨ln,cp,rfl⟩,rfl,rfl,λg=>⟨_,hd,?_⟩⟩;simp only[qH];refine⟨z,hz,_,hva,_,hvb,?_⟩;unfold Qv;simp only[jY];exact⟨h1,by trivial⟩
 |convert s d x=>
  simp only[cls]at hp
  split at hp
  ·cases hp
  ·split at hp<;>cases hp
  ·cases hp
 |call cl=>
  simp only[cls]at hp;cases hcl:cl.callee with
  |value f=>rw[hcl]at hp;cases hp
  |invoke a b=>rw[hcl]at hp;cases hp
  |builtin b=>
   rw[hcl]at hp;cases b<;>first |(cases hp;done) |skip
   simp only[]at hp
   split at hp
   ·split at hp<;>cases hp
   ·cases hp
 |_=>simp only[cls,reduceCtorEq]at hp
theorem ieq_t {a b:Int} (h:ieq a b=true):a=b:=by rw[Vo]at h;simpa using h
theorem seq_t {a b:List UInt8} (h:seq? a b=true):a=b:=by rw[seq?_eq]at h;simpa using h
mutual
theorem KR:∀{a b:AV},vH a b=true→a=b
 | .bool a,.bool b,h=>by simp only[vH,beq_iff_eq]at h;rw[h]
 | .int k a,.int k' b,h=>by simp only[vH,Bool.and_eq_true,beq_iff_eq]at h;rw[h.1,ieq_t h.2]
 | .str a,.str b,h=>by simp only[vH]at h;rw[seq_t h]
 | .ptr b o,.ptr b' o',h=>by simp only[vH,Bool.and_eq_true]at h;rw[jo h.1,jo h.2]
 | .nilp,.nilp,_=>rfl
 | .slice b o l c p,.slice b' o' l' c' p',h=>by simp only[vH,Bool.and_eq_true,beq_iff_eq]at h;rw[jo h.1,jo h.2.1,jo h.2.2.1,jo h.2.2.2.1,h.2.2.2.2]
 | .nils,.nils,_=>rfl
 | .fn f a c,.fn f' a' c',h=>by simp only[vH,Bool.and_eq_true]at h;rw[jo h.1,GM h.2.1,GM h.2.2]
 | .yield l,.yield l',h=>by simp only[vH]at h;rw[jo h]
 | .nilf,.nilf,_=>rfl
 | .iface t v,.iface t' v',h=>by simp only[vH,Bool.and_eq_true]at h;rw[jo h.1,KR h.2]
 | .nili,.nili,_=>rfl
 | .agg l,.agg l',h=>by simp only[vH]at h;rw[GM h]
 | .tup l,.tup l',h=>by simp only[vH]at h;rw[GM h]
 | .empt a,.empt a',h=>by simp only[vH,decide_eq_true_eq]at h;rw[h]
 | .tail b o o' i,.tail b' p p' j,h=>by simp only[vH,Bool.and_eq_true]at h;rw[jo h.1,jo h.2.1,jo h.2.2.1,jo h.2.2.2]
 | .mapv b,.mapv b',h=>by simp only[vH]at h;rw[jo h]
theorem GM:∀{a b:List AV},Gm a b=true→a=b
 |[],[],_=>rfl
 |a::r,b::s,h=>by simp only[Gm,Bool.and_eq_true]at h;rw[KR h.1,GM h.2]
end
end Go.Ae
namespace Go.Ae
open Go
variable {P:Program} {c:CV} {r:Operand→Option AV} {h h':AH} {v:AV} {o:Op}
theorem Mq {t:TypeId} {x:Operand} (e:opS P c (.load t x) r h=some (v,h')):h'=h∧∃b off,r x=some (.ptr b off)∧
  (∀g,g.get b=h.get b→opS P c (.load t x) r g=some (v,g))∧(∀g,zW (.ptr b off) (gH P (.load t x)) v g=true→opS P c (.load t x) r g=some (v,g)):=by
 unfold opS at e;simp only[opK,qH]at e;obtain⟨a,ha,i,hi,e⟩:=e;have hn:gH P (.load t x)=i:=by simp only[gH,hi]
 rw[hn];cases i with
 |none=>
  simp only[vM]at e
  split at e
  rotate_left
  ·cases e
  rename_i b off;have hz:∃z,(∀g,g.get b=h.get b→jN g (.ptr b off) (λz=>some (z,g))=some (z,g))∧(v,h')=(z,h):=by
   split at e
   ·rename_i cs t' op hg;simp only[qH]at e;obtain⟨z,hz,e⟩:=e;cases e;exact⟨_,λg hgg=>by simp only[vM,hgg,hg,hz],rfl⟩
   ·rename_i ti hg;simp only[qH]at e;obtain⟨z,hz,e⟩:=e;cases e;exact⟨_,λg hgg=>by simp only[vM,hgg,hg,hz],rfl⟩
   ·cases e
  obtain⟨z,hz,e⟩:=hz;cases e;refine⟨rfl,b,off,ha,?_,?_⟩
  ·intro g hgg;unfold opS;simp only[opK,qH];exact⟨_,ha,_,hi,hz g hgg⟩
  ·intro g hl;unfold opS;simp only[opK,qH];refine⟨_,ha,_,hi,?_⟩;simp only[zW]at hl
   split at hl
   ·rename_i cs' t2 op2 hg2
    split at hl
    ·rename_i y hy;have:=KR hl;subst this;simp only[vM,hg2,qH];exact⟨_,hy,rfl⟩
    ·cases hl
   ·rename_i ti hg2
    split at hl
    ·rename_i y hy;have:=KR hl;subst this;simp only[vM,hg2,qH];exact⟨_,hy,rfl⟩
    ·cases hl
   ·cases hl
 |some n=>
  simp only[wu]at e
  split at e
  rotate_left
  ·cases e
  rename_i b off;simp only[qH]at e;obtain⟨z,hz,e⟩:=e;cases e;refine⟨rfl,b,off,ha,?_,?_⟩
  ·intro g hgg;unfold opS;simp only[opK,qH];refine⟨_,ha,_,hi,?_⟩;simp only[wu,qH];refine⟨z,?_,rfl⟩;unfold yv at hz ⊢;rw[hgg];exact hz
  ·intro g hl;unfold opS;simp only[opK,qH];refine⟨_,ha,_,hi,?_⟩;simp only[wu,qH];simp only[zW]at hl
   split at hl
   ·rename_i cs' t2 op2 hg2
    split at hl
    ·rename_i y hy;have:=KR hl;cases this;refine⟨_,?_,rfl⟩;unfold yv;rw[hg2];exact hy
    ·cases hl
   ·rename_i ti hg2
    split at hl
    ·rename_i y hy;have:=KR hl;cases this;refine⟨_,?_,rfl⟩;unfold yv;rw[hg2];exact hy
    ·cases hl
   ·cases hl
theorem YW (hl:VQ o=true):∃t x,o=.load t x:=by
 cases o<;>first |exact⟨_,_,rfl⟩ |cases hl
theorem Oh (a b:Nat) (h:b+1≤65536):(a*65536+b)/65536=a∧(a*65536+b)%65536=b:=by omega
theorem OR (hc:J6 P o=true) (e:opS P c o r h=some (v,h')):h'=h∧∃x∈o.operands,∃u,r x=some u∧Xo r o=some u∧
  (∀g,(∀b off l i,u=.slice b off l i true→g.get b=h.get b)→opS P c o r g=some (v,g))∧(∀g,zW u (gH P o) v g=true→opS P c o r g=some (v,g)):=by
 cases o<;>try (cases hc;done)
 rename_i t x lo hi mx;unfold opS at e;cases mx with
 |some _=>cases e
 |none=>
  simp only[opK,qH]at e;obtain⟨u,hu,l,hl,q,hq,d,hd,e⟩:=e;cases d<;>first |(simp only[reduceCtorEq]at e;done) |skip
  case string=>simp only[J6,hd]at hc;cases hc
  case array n el=>simp only[J6,hd]at hc;cases hc
  case slice el=>
   simp only[qH]at e;obtain⟨sz,hsz,e⟩:=e;have key:∀g:AH,(∀b off l i,u=.slice b off l i true→g.get b=h.get b)→xY g el sz u l q (λz=>some (z,g))=bnd (xY h el sz u l q (λz=>some (z,h))) (λv _=>some (v,g)):=by
    intro g hg;rw[ZS];unfold xY
    split
    ·rfl
    ·rename_i b off len i0;have:yE g el b off sz i0 len=yE h el b off sz i0 len:=by unfold yE;rw[hg b off len i0 rfl]
     rw[this]
    ·rfl
    ·rfl
    ·rfl
   have key':∀g:AH,(∀b off l i,u=.slice b off l i true→g.get b=h.get b)→opS P c (.slice t x lo hi none) r g=some (v,g):=by intro g hg;unfold opS;simp only[opK,qH];refine⟨u,hu,l,hl,q,hq,_,hd,?_⟩;simp only[qH];refine⟨sz,hsz,?_⟩;rw[key g hg,e];rfl
   have key2:∀g:AH,zW u (gH P (.slice t x lo hi none)) v g=true→opS P c (.slice t x lo hi none) r g=some (v,g):=by
    intro g hg;unfold opS;simp only[opK,qH];refine⟨u,hu,l,hl,q,hq,_,hd,?_⟩;simp only[qH];refine⟨sz,hsz,?_⟩;have e0:xY g el sz u l q (λz=>some (z,g))=bnd (xY h el sz u l q (λz=>some (z,h))) (λv _=>some (v,g)):=by
     rw[ZS];unfold xY at e ⊢
     split at e
     ·rfl
     ·rename_i b off len i0;simp only[gH,hd,hsz]at hg;cases hb:Nat.ble (sz+1) 65536
      ·rw[hb]at hg;cases hg
      ·rw[hb]at hg;simp only[cond_true,zW]at hg;have h1:=ga hb;rw[(Oh el sz h1).1,(Oh el sz h1).2]at hg;cases hf:yE h el b off sz i0 len
       ·rw[hf]at e;cases e
       ·simp only[hg]
     ·rfl
     ·rfl
     ·rfl
    rw[e0,e];rfl
   refine⟨?_,x,by simp[Op.operands],u,hu,hu,key',key2⟩;have:=key' h (λ_ _ _ _ _=>rfl);have e2:opS P c (.slice t x lo hi none) r h=some (v,h'):=by unfold opS;simp only[opK,qH];refine⟨u,hu,l,hl,q,hq,_,hd,?_⟩;simp only[qH];exact⟨sz,hsz,e⟩
   rw[e2]at this;cases this;rfl
theorem qkf (l:List Nat) (t:Nat):(orL l).testBit t=l.any λa=>a.testBit t:=by
 induction l with
 |nil=>simp[orL]
 |cons a l ih=>simp[orL,ih]
theorem OU (t s:Nat):(bit t).testBit s=decide (t=s):=by unfold bit;rw[Nat.testBit_two_pow]
theorem Ya {all:List Oper} {o:Oper} {t:Nat} (h:.tmp t∈o.op.operands):(looks all o).testBit t=true:=by unfold looks;rw[Nat.testBit_or,qkf];simp only[Bool.or_eq_true,List.any_eq_true,List.mem_map];exact .inl ⟨_,⟨.tmp t,by simpa using h,rfl⟩,by simp[rdO,OU]⟩
theorem Zo {all:List Oper} {o:Oper} {g:Nat×Bool} {d:Nat} (hg:o.guard=some g) (hd:kM all o=some d):(looks all o).testBit d=true:=by unfold looks;rw[Nat.testBit_or,hg];simp[hd,OU]
theorem Jl (o:Oper) (t:Nat):(Jm o).testBit t=decide (o.dst=some t):=by
 unfold Jm;cases o.dst with
 |none=>simp
 |some d=>simp[OU]
theorem U0 {a b:Nat} (h:Nat.beq (a&&&b) 0=true) (t:Nat) (ha:a.testBit t=true):b.testBit t=false:=by have h:=jo h;have:=congrArg (λx=>x.testBit t) h;simp only[Nat.testBit_and,Nat.zero_testBit,ha,Bool.true_and]at this;exact this
end Go.Ae
namespace Go.Ae
open Go
variable {P:Program}
def UB (e:Edge):Bool:=Region.binds .any e
theorem J9 {j:Nat} {l:List Edge} (h:QX j l=true):∀e∈l,UB e=true→e.on<j:=by
 induction l with
 |nil=>intro e he;cases he
 |cons a l ih=>
  simp only[QX,Bool.and_eq_true]at h;intro e he hb;rcases List.mem_cons.1 he with rfl |he
  ·have h1:=h.1;unfold UB at hb;rw[hb]at h1;exact zQ h1
  ·exact ih h.2 e he hb
def UH (mk wj lj:Nat) (e:Ent):Prop:=mk.testBit e.i=true∨(Nat.beq (e.w&&&(lj|||wj)) 0=true∧Nat.beq (wj&&&e.l) 0=true)
theorem qJe {mk wj lj:Nat} {l:List Ent} (h:Zq mk wj lj l=true):∀e∈l,UH mk wj lj e:=by
 induction l with
 |nil=>intro e he;cases he
 |cons a l ih=>
  simp only[Zq,Bool.and_eq_true,Bool.or_eq_true]at h;intro e he;rcases List.mem_cons.1 he with rfl |he
  ·exact h.1
  ·exact ih h.2 e he
theorem qWb {t:PT Nat} {all:List Oper}:∀(l:List Oper) (j:Nat) (es:List Ent),lexE t all l j es=true→∀k o,l[k]? =some o→QX (j+k) o.after.toList=true∧
  (∀e∈es,UH (zp t (j+k)) (Jm o) (looks all o) e)∧∀i oi,i<k→l[i]? =some oi→UH (zp t (j+k)) (Jm o) (looks all o) ⟨j+i,Jm oi,looks all oi⟩:=by
 intro l
 induction l with
 |nil=>intro j es _ k o hk;simp at hk
 |cons a l ih=>
  intro j es h k o hk;simp only[lexE,Bool.and_eq_true]at h;obtain⟨h1,h2,h3⟩:=h;cases k with
  |zero=>simp at hk;subst hk;exact⟨h1,qJe h2,λi oi hi=>by omega⟩
  |succ k=>
   simp at hk;obtain⟨g1,g2,g3⟩:=ih (j+1) _ h3 k o hk;rw[show j+1+k=j+(k+1) by omega]at g1 g2 g3;refine⟨g1,λe he=>g2 e (iX _ he),?_⟩;intro i oi hi hoi;cases i with
   |zero=>simp at hoi;subst hoi;exact g2 _ (iK ..)
   |succ i=>
    simp at hoi;have:=g3 i oi omQ hoi
    rwa [show j+1+i=j+(i+1) by omega]at this
theorem qJ8:∀(l:List Oper) (j:Nat) (t:PT Nat) (i:Nat),i<j→(wz l j t).get i=t.get i:=by
 intro l
 induction l with
 |nil=>intro j t i _;rfl
 |cons a l ih=>intro j t i hi;simp only[wz];rw[ih _ _ _ omQ,PT.get_set,iQ omQ]
theorem qZ1:∀(l:List Oper) (j:Nat) (t:PT Nat) (k:Nat) (o:Oper),l[k]? =some o→∃T:PT Nat,(∀i,i<j+k→(wz l j t).get i=T.get i)∧
  (wz l j t).get (j+k)=some (o.after.toList.foldl (λs e=>bif Region.binds .any e then s|||(2 ^ e.on|||zp T e.on)else s) 0):=by
 intro l
 induction l with
 |nil=>intro j t k o hk;simp at hk
 |cons a l ih=>
  intro j t k o hk;cases k with
  |zero=>
   simp at hk;subst hk;refine⟨t,?_,?_⟩
   ·intro i hi;simp only[wz];rw[qJ8 _ _ _ _ omQ,PT.get_set,iQ omQ]
   ·simp only[wz,Nat.add_zero];rw[qJ8 _ _ _ _ omQ,PT.get_set,iJ rfl];rfl
  |succ k=>simp at hk;obtain⟨T,h1,h2⟩:=ih (j+1) _ k o hk;rw[show j+1+k=j+(k+1) by omega]at h1 h2;exact⟨T,h1,h2⟩
theorem qWN {T:PT Nat} {k:Nat}:∀(l:List Edge) (s:Nat),(l.foldl (λs e=>bif Region.binds .any e then s|||(2 ^ e.on|||zp T e.on)else s) s).testBit k=true→
  s.testBit k=true∨∃e∈l,UB e=true∧(k=e.on∨(zp T e.on).testBit k=true):=by
 intro l
 induction l with
 |nil=>intro s h;exact .inl h
 |cons a l ih=>
  intro s h;simp only[List.foldl_cons]at h;rcases ih _ h with h |⟨e,he,hb,hk⟩
  ·cases hb:Region.binds .any a
   ·rw[hb]at h;exact .inl h
   ·rw[hb]at h;simp only[cond_true,Nat.testBit_or,Bool.or_eq_true,Nat.testBit_two_pow,decide_eq_true_eq]at h;rcases h with h |h |h
    ·exact .inl h
    ·exact .inr ⟨a,iK ..,hb,.inl h.symm⟩
    ·exact .inr ⟨a,iK ..,hb,.inr h⟩
  ·exact .inr ⟨e,iX _ he,hb,hk⟩
theorem qze {ops:Array Oper} {i k:Nat} {o:Oper} (ho:ops[i]? =some o) (hb:QX i o.after.toList=true) (h:(zp (wz ops.toList 0 .e) i).testBit k=true) :
  ∃e∈o.after,UB e=true∧e.on<i∧(k=e.on∨(zp (wz ops.toList 0 .e) e.on).testBit k=true):=by
 obtain⟨T,h1,h2⟩:=qZ1 ops.toList 0 .e i o (by simpa using ho);simp only[Nat.zero_add]at h1 h2;unfold zp at h;rw[h2]at h;simp only[]at h;rcases qWN _ _ h with h |⟨e,he,hbe,hk⟩
 ·simp at h
 ·have hlt:=J9 hb e he hbe;have:zp (wz ops.toList 0 .e) e.on=zp T e.on:=by unfold zp;rw[h1 _ hlt]
  exact⟨e,by simpa using he,hbe,hlt,by rw[this];exact hk⟩
theorem qZ7 {t:PT Nat} {s:Nat→Prop} (hs:∀a b,s a→(zp t a).testBit b=true→s b):∀(l:List Oper) (j:Nat) (last:Option Nat),chain P t l j last=true→
  ∀k o,l[k]? =some o→zi P o.op=true→s (j+k)→(∀i,last=some i→s i)∧∀i oi,i<k→l[i]? =some oi→zi P oi.op=true→s (j+i):=by
 intro l
 induction l with
 |nil=>intro j last _ k o hk;simp at hk
 |cons a l ih=>
  intro j last h k o hk hh hsk;simp only[chain]at h;cases ha:zi P a.op
  ·rw[ha]at h;cases k with
   |zero=>simp at hk;subst hk;rw[ha]at hh;cases hh
   |succ k=>
    simp at hk;rw[show j+(k+1)=j+1+k by omega]at hsk;obtain⟨g1,g2⟩:=ih (j+1) last h k o hk hh hsk;refine⟨g1,?_⟩;intro i oi hi hoi hhi;cases i with
    |zero=>simp at hoi;subst hoi;rw[ha]at hhi;cases hhi
    |succ i=>
     simp at hoi;have:=g2 i oi omQ hoi hhi
     rwa [show j+1+i=j+(i+1) by omega]at this
  ·rw[ha]at h;simp only[cond_true,Bool.and_eq_true]at h;obtain⟨h1,h2⟩:=h;have hlast:s j→∀i,last=some i→s i:=by
    intro hj i hi;subst hi;exact hs j i hj h1
   cases k with
   |zero=>exact⟨hlast hsk,λi oi hi=>by omega⟩
   |succ k=>
    simp at hk;rw[show j+(k+1)=j+1+k by omega]at hsk;obtain⟨g1,g2⟩:=ih (j+1) (some j) h2 k o hk hh hsk;have hj:=g1 j rfl;refine⟨hlast hj,?_⟩;intro i oi hi hoi hhi;cases i with
    |zero=>exact hj
    |succ i=>
     simp at hoi;have:=g2 i oi omQ hoi hhi
     rwa [show j+1+i=j+(i+1) by omega]at this
theorem MZ {t:PT Nat} {i:Nat}:∀(l:List Oper) (j:Nat),YZ P t i l j=false→∀k o,l[k]? =some o→zi P o.op=true→kg t i (j+k)=false:=by
 intro l
 induction l with
 |nil=>intro j _ k o hk;simp at hk
 |cons a l ih=>
  intro j h k o hk hh;simp only[YZ,Bool.or_eq_false_iff]at h;cases k with
  |zero=>simp at hk;subst hk;have:=h.1;rw[hh]at this;simpa using this
  |succ k=>
   simp at hk;have:=ih (j+1) h.2 k o hk hh
   rwa [show j+1+k=j+(k+1) by omega]at this
theorem Mc {t:PT Nat} {p:Op→Bool} {all:List Oper}:∀(l:List Oper) (i:Nat),Xu P p t all l i=false→∀k o,l[k]? =some o→p o.op=true→
  ∀j oj,all[j]? =some oj→zi P oj.op=true→kg t (i+k) j=false:=by
 intro l
 induction l with
 |nil=>intro j _ k o hk;simp at hk
 |cons a l ih=>
  intro i h k o hk hp j oj hj hh;simp only[Xu,Bool.or_eq_false_iff]at h;cases k with
  |zero=>simp at hk;subst hk;have h1:=h.1;rw[hp,Bool.true_and]at h1;have:=MZ all 0 h1 j oj hj hh;simpa using this
  |succ k=>
   simp at hk;have:=ih (i+1) h.2 k o hk hp j oj hj hh
   rwa [show i+1+k=i+(k+1) by omega]at this
structure Stat (P:Program) (ops:Array Oper) (M:PT Nat):Prop where
  back:∀j o,ops[j]? =some o→∀e∈o.after,UB e=true→e.on<j
  mask:∀i o k,ops[i]? =some o→(zp M i).testBit k=true→∃e∈o.after,UB e=true∧e.on<i∧(k=e.on∨(zp M e.on).testBit k=true)
  apart:∀i j oi oj,i<j→ops[i]? =some oi→ops[j]? =some oj→UH (zp M j) (Jm oj) (looks ops.toList oj) ⟨i,Jm oi,looks ops.toList oi⟩
  chain:∀s:Nat→Prop,(∀a b,s a→(zp M a).testBit b=true→s b)→∀i j oi oj,i<j→ops[i]? =some oi→ops[j]? =some oj→zi P oi.op=true→zi P oj.op=true→s j→s i
theorem qkl {ops:Array Oper} (h:qK1 P ops=true):Stat P ops (wz ops.toList 0 .e):=by
 simp only[qK1,Bool.and_eq_true]at h;obtain⟨h1,h2⟩:=h;have hl:=qWb _ _ _ h1;refine⟨?_,?_,?_,?_⟩
 ·intro j o ho e he hb;have:=(hl j o (by simpa using ho)).1;rw[Nat.zero_add]at this;exact J9 this e (by simpa using he) hb
 ·intro i o k ho hk;have:=(hl i o (by simpa using ho)).1;rw[Nat.zero_add]at this;exact qze ho this hk
 ·intro i j oi oj hij hi hj;have:=(hl j oj (by simpa using hj)).2.2 i oi hij (by simpa using hi);simpa only[Nat.zero_add]using this
 ·intro s hs i j oi oj hij hi hj hhi hhj hsj;have:=(qZ7 hs _ _ _ h2 j oj (by simpa using hj) hhj (by simpa using hsj)).2 i oi hij (by simpa using hi) hhi;simpa using this
end Go.Ae
namespace Go.Ae
open Go
variable {P:Program} {c:CV} {r r':Operand→Option AV} {h h':AH} {v:AV}
theorem qr {α:Type} {x y:Option α} {f g:α→R} {q:AV×AH} (hx:∀v,x=some v→y=some v) (hf:∀v,x=some v→f v=some q→g v=some q) (e:ob x f=some q):ob y g=some q:=by rw[qH]at e ⊢;obtain⟨a,ha,e⟩:=e;exact⟨a,hx a ha,hf a ha e⟩
theorem qGF (hr:∀x v,r x=some v→r' x=some v):∀(l:List Operand) (s:List AV),wV r l=some s→wV r' l=some s:=by
 intro l
 induction l with
 |nil=>intro s e;exact e
 |cons a l ih=>intro s e;simp only[wV,Option.bind_eq_some_iff]at e ⊢;obtain⟨x,hx,t,ht,e⟩:=e;exact⟨x,hr _ _ hx,t,ih _ ht,e⟩
theorem Za (hr:∀x v,r x=some v→r' x=some v) {pl:Nat→Option (Nat×Nat)}:∀(l:List (Nat×Operand)) (s:List (Nat×Nat×AV)),yG pl r l=some s→yG pl r' l=some s:=by
 intro l
 induction l with
 |nil=>intro s e;exact e
 |cons a l ih=>intro s e;obtain⟨i,x⟩:=a;simp only[yG,Option.bind_eq_some_iff,Option.map_eq_some_iff]at e ⊢;obtain⟨p,hp,x,hx,t,ht,e⟩:=e;exact⟨p,hp,x,hr _ _ hx,t,ih _ ht,e⟩
theorem qWr (hr:∀x v,r x=some v→r' x=some v) (x:Option Operand) (s:Option AV) (e:Y9 r x=some s):Y9 r' x=some s:=by
 cases x with
 |none=>exact e
 |some x=>simp only[Y9,Option.map_eq_some_iff]at e ⊢;obtain⟨y,hy,e⟩:=e;exact⟨y,hr _ _ hy,e⟩
theorem VO {o:Op} {k:AV→AH→R} {q:AV×AH} (hr:∀x v,r x=some v→r' x=some v) (e:opK P c o r h k=some q):opK P c o r' h k=some q:=by
 have m1:=qGF hr;have m2:=λpl=>Za hr (pl:=pl);have m3:=qWr hr;cases o with
 |call cl=>
  cases hc:cl.callee with
  |value f=>simp only[opK,hc]at e ⊢;exact qr (hr _) (λ_ _=>qr (m1 _) λ_ _ e=>e) e
  |invoke x name=>simp only[opK,hc]at e ⊢;exact qr (hr _) (λ_ _=>qr (m1 _) λ_ _ e=>e) e
  |builtin b=>
   cases b<;>simp only[opK,hc,reduceCtorEq]at e ⊢
   case len=>
    generalize cl.argTypes.toList=ts at*;generalize cl.args.toList=xs at*;rcases xs with _ |⟨x,xs⟩<;>rcases ts with _ |⟨t,ts⟩<;>simp only[reduceCtorEq]at e ⊢
    exact qr (hr _) (λ_ _ e=>e) e
   case min=>exact qr (m1 _) (λ_ _ e=>e) e
   case max=>exact qr (m1 _) (λ_ _ e=>e) e
   case append=>
    generalize cl.argTypes.toList=ts at*;generalize cl.args.toList=xs at*;rcases xs with _ |⟨s,_ |⟨x,_ |⟨y,xs⟩⟩⟩<;>rcases ts with _ |⟨t,_ |⟨u,ts⟩⟩<;>simp only[reduceCtorEq]at e ⊢
    refine qr (λ_ e=>e) (λdu _ e=>?_) e;revert e
    split
    ·intro e;exact e
    ·refine qr (λ_ e=>e) (λd _ e=>?_);revert e
     split
     ·exact qr (λ_ e=>e) (λ_ _=>qr (hr _) λ_ _=>qr (hr _) λ_ _ e=>e)
     ·intro e;exact e
   case copy=>
    generalize cl.argTypes.toList=ts at*;generalize cl.args.toList=xs at*;rcases xs with _ |⟨s,_ |⟨x,_ |⟨y,xs⟩⟩⟩<;>rcases ts with _ |⟨t,ts⟩<;>simp only[reduceCtorEq]at e ⊢
    refine qr (λ_ e=>e) (λdu _ e=>?_) e;revert e
    split
    ·exact qr (λ_ e=>e) (λ_ _=>qr (hr _) λ_ _=>qr (hr _) λ_ _ e=>e)
    ·intro e;exact e
   case delete=>
    generalize cl.argTypes.toList=ts at*;generalize cl.args.toList=xs at*;rcases xs with _ |⟨s,_ |⟨x,_ |⟨y,xs⟩⟩⟩<;>rcases ts with _ |⟨t,ts⟩<;>simp only[reduceCtorEq]at e ⊢
    rw[jt]at e ⊢;exact⟨e.1,qr (hr _) (λ_ _=>qr (hr _) λ_ _ e=>e) e.2⟩
 |build t ps=>
  simp only[opK]at e ⊢;refine qr (λ_ e=>e) (λ_ _=>qr (λ_ e=>e) λd _ e=>?_) e;revert e
  split
  ·exact qr (λ_ e=>e) (λ_ _=>qr (m2 _ _) λ_ _ e=>e)
  ·exact qr (λ_ e=>e) (λ_ _=>qr (m2 _ _) λ_ _ e=>e)
  ·intro e;exact e
 |buildSlice t n ps=>
  simp only[opK]at e ⊢;refine qr (λ_ e=>e) (λd _ e=>?_) e;revert e
  split
  ·refine qr (λ_ e=>e) (λ_ _ e=>?_);rw[jt]at e ⊢;exact⟨e.1,qr (m2 _ _) (λ_ _ e=>e) e.2⟩
  ·intro e;exact e
 |makeFunc fn a cp=>
  simp only[opK]at e ⊢;revert e
  split
  ·exact qr (m1 _) (λ_ _=>qr (m1 _) λ_ _ e=>e)
  ·intro e;exact e
 |makeInterface t x=>
  simp only[opK]at e ⊢;refine qr (λ_ e=>e) (λd _ e=>?_) e;revert e
  split
  ·intro e;exact e
  ·exact qr (hr _) λ_ _ e=>e
 |makeSlice t a b=>
  simp only[opK]at e ⊢;refine qr (λ_ e=>e) (λd _ e=>?_) e;revert e
  split
  ·exact qr (λ_ e=>e) (λ_ _=>qr (hr _) λ_ _=>qr (hr _) λ_ _ e=>e)
  ·intro e;exact e
 |slice t x lo hi mx=>
  simp only[opK]at e ⊢;revert e
  split
  ·intro e;exact e
  ·exact qr (hr _) λ_ _=>qr (m3 _) λ_ _=>qr (m3 _) λ_ _ e=>e
 |range t x=>
  simp only[opK]at e ⊢;refine qr (λ_ e=>e) (λd _ e=>?_) e;revert e
  split
  ·exact qr (hr _) λ_ _ e=>e
  ·intro e;exact e
 |makeMap t hint=>exact e
 |lookup t x i ok=>simp only[opK]at e ⊢;rw[jt]at e ⊢;exact⟨e.1,qr (hr _) (λ_ _=>qr (hr _) λ_ _ e=>e) e.2⟩
 |mapEntry t x i=>simp only[opK]at e ⊢;rw[jt]at e ⊢;exact⟨e.1,qr (hr _) (λ_ _=>qr (hr _) λ_ _ e=>e) e.2⟩
 |mapUpdate t x s y=>simp only[opK]at e ⊢;rw[jt]at e ⊢;exact⟨e.1,qr (hr _) (λ_ _=>qr (hr _) λ_ _=>qr (hr _) λ_ _ e=>e) e.2⟩
 |entryStore t x s y=>exact qr (hr _) (λ_ _=>qr (hr _) λ_ _=>qr (hr _) λ_ _ e=>e) e
 |next x b=>simp only[opK]at e ⊢;rw[jt]at e ⊢;exact⟨e.1,qr (hr _) (λ_ _ e=>e) e.2⟩
 |pick a b d=>exact qr (hr _) (λ_ _=>qr (hr _) λ_ _=>qr (hr _) λ_ _ e=>e) e
 |store t a x=>exact qr (hr _) (λ_ _=>qr (hr _) λ_ _ e=>e) e
 |binOp op t x y u=>exact qr (hr _) (λ_ _=>qr (hr _) λ_ _ e=>e) e
 |indexAddr t x i=>exact qr (hr _) (λ_ _=>qr (hr _) λ_ _ e=>e) e
 |index t x i=>exact qr (hr _) (λ_ _=>qr (hr _) λ_ _ e=>e) e
 |alloc t=>exact e
 |_=>first |exact qr (hr _) (λ_ _ e=>e) e |(simp only[opK,reduceCtorEq]at e;done)
def upd (F:Nat→Option AV) (dst:Option Tmp) (v:AV):Nat→Option AV:=λt=>if dst=some t then some v else F t
def evF (F:Nat→Option AV):Operand→Option AV
 | .tmp t=>F t
 | .const v=>qJI v
 | .global _=>none
 | .func f=>some (.fn f [] [])
def kp (tm:PT AV) (F:Nat→Option AV):Prop:=∀t v,tm.get t=some v→F t=some v
theorem qVO {tm:PT AV} {F:Nat→Option AV} (h:kp tm F):∀x v,ev tm x=some v→evF F x=some v:=by
 intro x v e;cases x with
 |tmp t=>exact h t v e
 |_=>exact e
def kc:AV→Bool→Bool
 | .bool t,w=>t==w
 |_,_=>false
structure qXu (P:Program) (c:CV) (n:Nat) (ops:Array Oper) (LP:J8→Prop) (HP:JA→Prop) (i:Nat) (o:Oper) (F:Nat→Option AV) (h:AH) (v:AV) (b:Bool) (h':AH):Prop where
  yes:b=true→opS P c o.op (evF F) h=some (v,h')
  no:b=false→v=.undef∧h'=h
  g0:o.guard=none→b=true
  g1:∀g,o.guard=some g→∃d vg,kM ops.toList o=some d∧F d=some vg∧b=kc vg g.2
  dst:∀d,o.dst=some d→d<n
  ld:b=true→vh P o.op=true→∃a,Xo (evF F) o.op=some a∧LP ⟨i,a,gH P o.op,v⟩
  hv:b=true→zi P o.op=true→HP ⟨i,h,h'⟩
inductive Seg (P:Program) (c:CV) (n:Nat) (ops:Array Oper) (LP:J8→Prop) (HP:JA→Prop):Nat→(Nat→Option AV)→AH→Nat→(Nat→Option AV)→AH→Prop where
  |nil (i:Nat) (F:Nat→Option AV) (h:AH):Seg P c n ops LP HP i F h i F h
  | cons (i : Nat) (o : Oper) (F : Nat → Option AV) (h : AH) (v : AV) (b : Bool) (h' : AH) (j : Nat) (F' : Nat → Option AV) (h2 : AH) : ops[i]? = some o → qXu P c n ops LP HP i o F h v b h' →
      Seg P c n ops LP HP (i+1) (upd F o.dst v) h' j F' h2→Seg P c n ops LP HP i F h j F' h2
theorem Seg.trans {n:Nat} {ops:Array Oper} {LP:J8→Prop} {HP:JA→Prop} {i j k:Nat} {F F' F'':Nat→Option AV} {h h' h'':AH}
  (a:Seg P c n ops LP HP i F h j F' h') (b:Seg P c n ops LP HP j F' h' k F'' h''):Seg P c n ops LP HP i F h k F'' h'':=by
 induction a with
 |nil=>exact b
 |cons i o F h v b' h' j F' h2 ho hs _ ih=>exact .cons i o F h v b' h' k _ _ ho hs (ih b)
structure Tr (P:Program) (c:CV) (n:Nat) (ops:Array Oper) (LP:J8→Prop) (HP:JA→Prop) (F:Nat→Nat→Option AV) (H:Nat→AH) (V:Nat→AV) (W:Nat→Bool):Prop where
  step:∀i o,ops[i]? =some o→qXu P c n ops LP HP i o (F i) (H i) (V i) (W i) (H (i+1))∧F (i+1)=upd (F i) o.dst (V i)
theorem Seg.fns {n:Nat} {ops:Array Oper} {LP:J8→Prop} {HP:JA→Prop} {i j:Nat} {F0 F1:Nat→Option AV} {h0 h1:AH} (a:Seg P c n ops LP HP i F0 h0 j F1 h1) :
  i≤j∧∃(F:Nat→Nat→Option AV) (H:Nat→AH) (V:Nat→AV) (W:Nat→Bool),F i=F0∧H i=h0∧F j=F1∧H j=h1∧
   ∀k o,i≤k→k<j→ops[k]? =some o→qXu P c n ops LP HP k o (F k) (H k) (V k) (W k) (H (k+1))∧F (k+1)=upd (F k) o.dst (V k):=by
 induction a with
 |nil i F h=>exact⟨Nat.le_refl _,λ_=>F,λ_=>h,λ_=>.undef,λ_=>true,rfl,rfl,rfl,rfl,λk o h1 h2=>by omega⟩
 |cons i o F h v b h' j F' h2 ho hs _ ih=>
  obtain⟨hij,G,H,V,W,e1,e2,e3,e4,e5⟩:=ih;refine⟨by omega,λk=>if k=i then F else G k,λk=>if k=i then h else H k,λk=>if k=i then v else V k,λk=>if k=i then b else W k,by simp,by simp,?_,?_,?_⟩
  ·simp only[];rw[iQ omQ];exact e3
  ·simp only[];rw[iQ omQ];exact e4
  ·intro k o' hk hkj hok;simp only[];by_cases hki:k=i
   ·subst hki;rw[ho]at hok;cases hok;rw[iJ rfl,iJ rfl,iJ rfl,iJ rfl,iQ omQ,iQ omQ,e1,e2];exact⟨hs,rfl⟩
   ·rw[iQ hki,iQ hki,iQ hki,iQ hki,iQ omQ,iQ omQ];exact e5 k o' omQ hkj hok
end Go.Ae
namespace Go.Ae
open Go
variable {P:Program} {c:CV} {n:Nat} {ops:Array Oper}
theorem G5 {tm:PT AV} {F:Nat→Option AV} (h:kp tm F) {dst:Option Tmp} {v:AV} {k:PT AV→R} {r:AV×AH} (e:V3 n tm dst v k=some r) :
  ∃tm',k tm'=some r∧kp tm' (upd F dst v)∧∀d,dst=some d→d<n:=by
 cases dst with
 |none=>exact⟨tm,e,λt u hu=>by simp only[upd];rw[iQ osQ];exact h t u hu,λd hd=>by cases hd⟩
 |some d=>
  simp only[V3,jt]at e;refine⟨_,e.2,?_,λd' hd=>by cases hd;exact zQ e.1⟩;intro t u hu;rw[PT.get_set]at hu;simp only[upd];by_cases hd:d=t
  ·subst hd;rw[iJ rfl]at hu ⊢;exact hu
  ·rw[iQ hd]at hu;rw[iQ (by simpa using hd)];exact h t u hu
theorem NU {o:Op} (hl:vh P o=true):VQ o=true∨J6 P o=true:=by unfold vh at hl;rw[Bool.or_eq_true]at hl;exact hl
theorem qY3 {o:Op} (hl:J6 P o=true):∃t x lo hi mx,o=.slice t x lo hi mx:=by
 cases o<;>first |exact⟨_,_,_,_,_,rfl⟩ |cases hl
theorem qgT {o:Op} (hl:vh P o=true):zi P o=false:=by
 rcases NU hl with h |h
 ·obtain⟨t,x,rfl⟩:=YW h;rfl
 ·obtain⟨t,x,lo,hi,mx,rfl⟩:=qY3 h;rfl
theorem qkB {tm:PT AV} {F:Nat→Option AV} (T:kp tm F) {o:Op} {a:AV} (h:Xo (ev tm) o=some a):Xo (evF F) o=some a:=by
 cases o<;>first |exact qVO T _ _ h |cases h
theorem qqM {F:Nat→Option AV} {h h':AH} {o:Op} {v:AV} (e:opS P c o (evF F) h=some (v,h')) (hl:vh P o=true):∃a,Xo (evF F) o=some a:=by
 rcases NU hl with hl |hl
 ·obtain⟨t,x,rfl⟩:=YW hl;obtain⟨_,b,off,hx,_⟩:=Mq e;exact⟨_,hx⟩
 ·obtain⟨_,x,_,u,_,hu,_⟩:=OR hl e;exact⟨u,hu⟩
theorem Ml {F:Nat→Option AV} {dst:Option Tmp} {v:AV} {d:Nat} (h:dst≠some d):upd F dst v d=F d:=by simp only[upd];rw[iQ h]
abbrev LT:J8→Prop:=λ_=>True
abbrev HT:JA→Prop:=λ_=>True
theorem qzF {g:Option (Nat×Bool)} {r:AV×AH}:∀(l:List Oper) (j:Nat) (tm:PT AV) (F:Nat→Option AV) (h:AH) (k:PT AV→AH→R),
  (∀i o,l[i]? =some o→ops[j+i]? =some o∧o.guard=g)→
  (∀q,g=some q→∃d vg,(∀o:Oper,o.guard=some q→kM ops.toList o=some d)∧writes d l=false∧F d=some vg∧kc vg q.2=true)→
  kp tm F→qYu P c n l tm h k=some r→∃tm' h' F',k tm' h'=some r∧kp tm' F'∧Seg P c n ops LT HT j F h (j+l.length) F' h':=by
 intro l
 induction l with
 |nil=>intro j tm F h k _ _ T e;exact⟨tm,h,F,e,T,.nil _ _ _⟩
 |cons o l ih=>
  intro j tm F h k hl hg T e;simp only[qYu]at e;obtain⟨v,h1,e1,e⟩:=Xw e;have e1:=VO (qVO T) e1;obtain⟨tm1,e,T1,hd⟩:=G5 T e;obtain⟨ho,hgo⟩:=hl 0 o rfl
  obtain⟨tm',h',F',e',T',S⟩:=ih (j+1) tm1 _ h1 k (λi o' hi=>by have:=hl (i+1) o' hi;rwa [show j+(i+1)=j+1+i by omega]at this) (by
   intro q hq;obtain⟨d,vg,g1,g2,g3,g4⟩:=hg q hq;refine⟨d,vg,g1,?_,?_,g4⟩
   ·simp only[writes,Bool.or_eq_false_iff]at g2;exact g2.2
   ·rw[Ml (Yg g2 o (iK ..))];exact g3) T1 e
  refine⟨tm',h',F',e',T',?_⟩;rw[show j+(o::l).length=j+1+l.length by simp;omega];refine .cons j o F h v true h1 _ _ _ ho ⟨λ_=>e1,(λhh=>by cases hh),λ_=>rfl,?_,hd,?_,λ_ _=>trivial⟩ S
  ·intro q hq;rw[hgo]at hq;obtain⟨d,vg,g1,g2,g3,g4⟩:=hg q hq;exact⟨d,vg,g1 o (by rw[hgo,hq]),g3,g4.symm⟩
  ·intro _ hld;obtain⟨a,ha⟩:=qqM e1 hld;exact⟨a,ha,trivial⟩
theorem qGD {q:Nat×Bool} {d:Nat} {vg:AV} {h:AH} {r:AV×AH}:∀(l:List Oper) (j:Nat) (tm:PT AV) (F:Nat→Option AV) (k:PT AV→R),
  (∀i o,l[i]? =some o→ops[j+i]? =some o∧o.guard=some q)→
  (∀o:Oper,o.guard=some q→kM ops.toList o=some d)→writes d l=false→F d=some vg→kc vg q.2=false→
  kp tm F→VC n l tm k=some r→∃tm' F',k tm'=some r∧kp tm' F'∧Seg P c n ops LT HT j F h (j+l.length) F' h:=by
 intro l
 induction l with
 |nil=>intro j tm F k _ _ _ _ _ T e;exact⟨tm,F,e,T,.nil _ _ _⟩
 |cons o l ih=>
  intro j tm F k hl hgd hw hF hwant T e;simp only[VC]at e;obtain⟨tm1,e,T1,hd⟩:=G5 T e;obtain⟨ho,hgo⟩:=hl 0 o rfl;have hno:=Yg hw;obtain⟨tm',F',e',T',S⟩:=ih (j+1) tm1 _ k (λi o' hi=>by have:=hl (i+1) o' hi;rwa [show j+(i+1)=j+1+i by omega]at this) hgd
   (by simp only[writes,Bool.or_eq_false_iff]at hw;exact hw.2) (by rw[Ml (hno o (iK ..))];exact hF) hwant T1 e
  refine⟨tm',F',e',T',?_⟩;rw[show j+(o::l).length=j+1+l.length by simp;omega];refine .cons j o F h .undef false h _ _ _ ho ⟨(λhh=>by cases hh),λ_=>⟨rfl,rfl⟩,(λhh=>by rw[hgo]at hh;cases hh),?_,hd,(λhh=>by cases hh),(λhh=>by cases hh)⟩ S;intro q' hq;rw[hgo]at hq;cases hq;exact⟨d,vg,hgd o hgo,hF,hwant.symm⟩
theorem jQC {tm:PT AV} {F:Nat→Option AV} (T:kp tm F):∀(L:List Nat) (acc:PT AV),kp acc F→xf tm L=true→kp (wC L (gR L tm) acc) F:=by
 intro L
 induction L with
 |nil=>intro acc A _;exact A
 |cons t L ih=>
  intro acc A hh;simp only[xf,Bool.and_eq_true]at hh;simp only[gR,wC];refine ih _ ?_ hh.2;have h1:=hh.1;unfold has at h1
  split at h1
  ·rename_i v hv;intro s u hs;rw[PT.get_set]at hs;by_cases e:t=s
   ·subst e;rw[iJ rfl]at hs;cases hs;exact T t v hv
   ·rw[iQ e]at hs;exact A s u hs
  ·cases h1
theorem qVi {tm:PT AV} {F:Nat→Option AV} (T:kp tm F) (L:List Nat) (hh:xf tm L=true):kp (wC L (gR L tm) .e) F:=jQC T L .e (λt v hv=>by rw[PT.get_e]at hv;cases hv) hh
theorem VD {v:AV} {w:Bool} {a b:R} {r:AV×AH} (e:ke v w a b=some r):(kc v w=true∧a=some r)∨(kc v w=false∧b=some r):=by
 rw[Vq]at e
 split at e
 ·rename_i t;simp only[kc];cases ht:(t==w)
  ·rw[ht]at e;exact .inr ⟨rfl,e⟩
  ·rw[ht]at e;exact .inl ⟨rfl,e⟩
 ·rename_i hn;refine .inr ⟨?_,e⟩;cases v<;>first |rfl |exact absurd rfl (hn _)
theorem qjR {r:AV×AH}:∀(f:Nat) (l:List Oper) (j:Nat) (Ls:List (List Nat)) (tm:PT AV) (F:Nat→Option AV) (h:AH) (k:PT AV→AH→R),
  (∀i o,l[i]? =some o→ops[j+i]? =some o)→kp tm F→Y7 P c n ops.toList f l Ls tm h k=some r→
  ∃tm' h' F',k tm' h'=some r∧kp tm' F'∧Seg P c n ops LT HT j F h (j+l.length) F' h':=by
 intro f
 induction f with
 |zero=>
  intro l j Ls tm F h k hl T e;cases l with
  |nil=>exact⟨tm,h,F,e,T,.nil _ _ _⟩
  |cons o l=>simp only[Y7,reduceCtorEq]at e
 |succ f ih=>
  intro l j Ls tm F h k hl T e;cases l with
  |nil=>exact⟨tm,h,F,e,T,.nil _ _ _⟩
  |cons o l=>
   cases hg:o.guard with
   |none=>simp only[Y7,hg]at e;obtain⟨v,h1,e1,e⟩:=Xw e;have e1:=VO (qVO T) e1;obtain⟨tm1,e,T1,hd⟩:=G5 T e;obtain⟨tm',h',F',e',T',S⟩:=ih l (j+1) Ls tm1 _ h1 k (λi o' hi=>by have:=hl (i+1) o' hi;rwa [show j+(i+1)=j+1+i by omega]at this) T1 e;refine⟨tm',h',F',e',T',?_⟩;rw[show j+(o::l).length=j+1+l.length by simp;omega];refine .cons j o F h v true h1 _ _ _ (hl 0 o rfl) ⟨λ_=>e1,(λhh=>by cases hh),λ_=>rfl,(λq hq=>by rw[hg]at hq;cases hq),hd,?_,λ_ _=>trivial⟩ S;intro _ hld;obtain⟨a,ha⟩:=qqM e1 hld;exact⟨a,ha,trivial⟩
   |some g=>
    simp only[Y7,hg,qH]at e;obtain⟨d,hd,vg,hvg,e⟩:=e;cases Ls with
    |nil=>cases e
    |cons L Ls'=>
     simp only[NJ]at e;obtain⟨hwr,e⟩:=e;have hgd:∀o':Oper,o'.guard=some g→kM ops.toList o'=some d:=by intro o' ho';unfold kM at hd ⊢;rw[hg]at hd;rw[ho'];exact hd
     have hF:=T d vg hvg;have happ:o::l=(o::(zU g l).1)++(zU g l).2:=by rw[List.cons_append,OX]
     have hl1:∀i o',(o::(zU g l).1)[i]? =some o'→ops[j+i]? =some o'∧o'.guard=some g:=by
      intro i o' hi;refine⟨hl i o' ?_,?_⟩
      ·rw[happ,List.getElem?_append_left (List.getElem?_eq_some_iff.1 hi).1];exact hi
      ·rcases List.mem_cons.1 (List.mem_of_getElem? hi)with rfl |hm
       ·exact hg
       ·exact qVD g l o' hm
     have hl2:∀i o',(zU g l).2[i]? =some o'→ops[j+(o::(zU g l).1).length+i]? =some o':=by intro i o' hi;rw[Nat.add_assoc];refine hl _ o' ?_;rw[happ,List.getElem?_append_right omQ];rw[show(o::(zU g l).1).length+i-(o::(zU g l).1).length=i by omega];exact hi
     have hlen:j+(o::l).length=j+(o::(zU g l).1).length+(zU g l).2.length:=by have:=congrArg List.length happ;simp only[List.length_append]at this;omega
     have fin:∀tm1 h1 F1,kp tm1 F1→Seg P c n ops LT HT j F h (j+(o::(zU g l).1).length) F1 h1→
       cnd (xf tm1 L) (Y7 P c n ops.toList f (zU g l).2 Ls' (wC L (gR L tm1) .e) h1 k) none=some r→
       ∃tm' h' F',k tm' h'=some r∧kp tm' F'∧Seg P c n ops LT HT j F h (j+(o::l).length) F' h':=by
      intro tm1 h1 F1 T1 S1 e1;rw[jt]at e1;obtain⟨tm',h',F',e',T',S⟩:=ih (zU g l).2 _ Ls' _ F1 h1 k hl2 (qVi T1 L e1.1) e1.2;refine⟨tm',h',F',e',T',?_⟩;rw[hlen];exact S1.trans S
     simp only[yB]at e;rcases VD e with⟨hw,e⟩ |⟨hw,e⟩
     ·obtain⟨tm1,h1,F1,e1,T1,S1⟩:=qzF (o::(zU g l).1) j tm F h _ hl1 (by
       intro q hq;cases hq;exact⟨d,vg,hgd,hwr,hF,hw⟩) T e
      exact fin tm1 h1 F1 T1 S1 e1
     ·obtain⟨tm1,F1,e1,T1,S1⟩:=qGD (P:=P) (c:=c) (h:=h) (o::(zU g l).1) j tm F _ hl1 hgd hwr hF hw T e;exact fin tm1 h F1 T1 S1 e1
def KnG (kn:List (Nat×Bool×Bool)) (F:Nat→Option AV):Prop:=∀x∈kn,∃v,F x.1=some v∧kc v x.2.1=x.2.2
theorem qj5 {kn:List (Nat×Bool×Bool)} {F:Nat→Option AV} {d:Nat} {w t:Bool} {v:AV} (K:KnG kn F) (hv:F d=some v) (e:Ny kn d w=some t):kc v w=t:=by
 induction kn with
 |nil=>cases e
 |cons x r ih=>
  obtain⟨u,h1,h2⟩:=K x (iK ..);unfold Ny at e;cases h3:(Nat.beq x.1 d&&(x.2.1==w))
  ·rw[h3,cond_false]at e;cases h4:(Nat.beq x.1 d&&x.2.2)
   ·rw[h4,cond_false]at e;exact ih (λy hy=>K y (iX _ hy)) e
   ·rw[h4,cond_true]at e;cases e;rw[Bool.and_eq_true]at h4;have hd:=Nat.eq_of_beq_eq_true h4.1;rw[hd,hv]at h1;cases h1;rw[h4.2]at h2;rw[h4.1,Bool.true_and]at h3;cases v with
    |bool b=>simp only[kc,beq_iff_eq]at h2 ⊢;subst h2;exact h3
    |_=>rfl
  ·rw[h3,cond_true]at e;cases e;rw[Bool.and_eq_true]at h3;have hd:=Nat.eq_of_beq_eq_true h3.1;rw[hd,hv]at h1;cases h1;rw[← h2,show x.2.1=w by simpa using h3.2]
theorem KnG.drop {kn:List (Nat×Bool×Bool)} {F:Nat→Option AV} {dst:Option Tmp} {v:AV} (K:KnG kn F):KnG (dropG dst kn) (upd F dst v):=by
 induction kn with
 |nil=>intro x hx;cases hx
 |cons x r ih=>
  have ihr:=ih λy hy=>K y (iX _ hy);unfold dropG;cases hb:hitG dst x.1
  ·rw[cond_false];intro y hy;rcases List.mem_cons.1 hy with rfl |hy
   ·obtain⟨u,h1,h2⟩:=K y (iK ..);refine⟨u,?_,h2⟩;simp only[upd];rw[iQ ?_]
    ·exact h1
    ·cases dst with
     |none=>simp
     |some t=>simp only[hitG]at hb;intro hh;cases hh;rw[Nat.beq_refl]at hb;cases hb
   ·exact ihr y hy
  ·rw[cond_true];exact ihr
theorem qXB {kn:List (Nat×Bool×Bool)} {F:Nat→Option AV} {d:Nat} {w:Bool} {v:AV} {a b:R} {r:AV×AH} (K:KnG kn F) (hv:F d=some v) (e:qyL (Ny kn d w) v w a b=some r):(kc v w=true∧a=some r)∨(kc v w=false∧b=some r):=by
 cases hl:Ny kn d w with
 |none=>rw[hl]at e;exact VD e
 |some t=>
  rw[hl]at e;have:=qj5 K hv hl;cases t
  ·exact .inr ⟨this,e⟩
  ·exact .inl ⟨this,e⟩
theorem KnG.more {kn:List (Nat×Bool×Bool)} {F:Nat→Option AV} {d:Nat} {w t:Bool} {v:AV} (K:KnG kn F) (hv:F d=some v) (hw:kc v w=t):KnG ((d,w,t)::kn) F:=by
 intro x hx;rcases List.mem_cons.1 hx with rfl |hx
 ·exact⟨v,hv,hw⟩
 ·exact K x hx
theorem qqN {r:AV×AH}:∀(l:List Oper) (j:Nat) (kn:List (Nat×Bool×Bool)) (tm:PT AV) (F:Nat→Option AV) (h:AH) (ls:List J8) (hs:List JA) (k:PT AV→AH→List J8→List JA→R),
  (∀i o,l[i]? =some o→ops[j+i]? =some o)→kp tm F→KnG kn F→Gn P c n ops.toList l j kn tm h ls hs k=some r→
  ∃tm' h' F' ls' hs',k tm' h' ls' hs'=some r∧kp tm' F'∧(∀x∈ls,x∈ls')∧(∀x∈hs,x∈hs')∧∀(LP:J8→Prop) (HP:JA→Prop),(∀x∈ls',LP x)→(∀x∈hs',HP x)→Seg P c n ops LP HP j F h (j+l.length) F' h':=by
 intro l
 induction l with
 |nil=>intro j kn tm F h ls hs k _ T _ e;exact⟨tm,h,F,ls,hs,e,T,λ_ h=>h,λ_ h=>h,λ_ _ _ _=>.nil _ _ _⟩
 |cons o l ih=>
  intro j kn tm F h ls hs k hl T KN e;have hl':∀i o',l[i]? =some o'→ops[j+1+i]? =some o':=λi o' hi=>by have:=hl (i+1) o' hi;rwa [show j+(i+1)=j+1+i by omega]at this
  have ho:=hl 0 o rfl;have yes:∀(kn':List (Nat×Bool×Bool)) (KN':KnG kn' F) (hg0:∀g,o.guard=some g→∃d vg,kM ops.toList o=some d∧F d=some vg∧true=kc vg g.2),
    opK P c o.op (ev tm) h (λv h'=>V3 n tm o.dst v λtm'=>
     cnd (vh P o.op) (ob (Xo (ev tm) o.op) λa=>Gn P c n ops.toList l (j+1) (dropG o.dst kn') tm' h' (⟨j,a,gH P o.op,v⟩::ls) hs k) (cnd (zi P o.op) (Gn P c n ops.toList l (j+1) (dropG o.dst kn') tm' h' ls (⟨j,h,h'⟩::hs) k) (Gn P c n ops.toList l (j+1) (dropG o.dst kn') tm' h' ls hs k)))=some r→
    ∃tm' h' F' ls' hs',k tm' h' ls' hs'=some r∧kp tm' F'∧(∀x∈ls,x∈ls')∧(∀x∈hs,x∈hs')∧∀(LP:J8→Prop) (HP:JA→Prop),(∀x∈ls',LP x)→(∀x∈hs',HP x)→Seg P c n ops LP HP j F h (j+(o::l).length) F' h':=by
   intro kn' KN' hg0 e;obtain⟨v,h1,e1,e⟩:=Xw e;have e1:=VO (qVO T) e1;obtain⟨tm1,e,T1,hd⟩:=G5 T e;rw[show j+(o::l).length=j+1+l.length by simp;omega];cases hld:vh P o.op
   ·rw[hld]at e;simp only[cnd]at e;cases hhv:zi P o.op
    ·rw[hhv]at e;simp only[]at e;obtain⟨tm',h',F',ls',hs',e',T',s1,s2,S⟩:=ih (j+1) _ tm1 _ h1 ls hs k hl' T1 KN'.drop e;refine⟨tm',h',F',ls',hs',e',T',s1,s2,λLP HP hL hH=>?_⟩;exact .cons j o F h v true h1 _ _ _ ho ⟨λ_=>e1,(λhh=>by cases hh),λ_=>rfl,hg0,hd,(λ_ hh=>by rw[hld]at hh;cases hh),(λ_ hh=>by rw[hhv]at hh;cases hh)⟩ (S LP HP hL hH)
    ·rw[hhv]at e;simp only[]at e;obtain⟨tm',h',F',ls',hs',e',T',s1,s2,S⟩:=ih (j+1) _ tm1 _ h1 ls _ k hl' T1 KN'.drop e;refine⟨tm',h',F',ls',hs',e',T',s1,λx hx=>s2 x (iX _ hx),λLP HP hL hH=>?_⟩;exact .cons j o F h v true h1 _ _ _ ho ⟨λ_=>e1,(λhh=>by cases hh),λ_=>rfl,hg0,hd,(λ_ hh=>by rw[hld]at hh;cases hh),λ_ _=>hH _ (s2 _ (iK ..))⟩ (S LP HP hL hH)
   ·rw[hld]at e;simp only[cnd,qH]at e;obtain⟨a,ha,e⟩:=e;obtain⟨tm',h',F',ls',hs',e',T',s1,s2,S⟩:=ih (j+1) _ tm1 _ h1 _ hs k hl' T1 KN'.drop e;have ha':Xo (evF F) o.op=some a:=qkB T ha;refine⟨tm',h',F',ls',hs',e',T',λx hx=>s1 x (iX _ hx),s2,λLP HP hL hH=>?_⟩;refine .cons j o F h v true h1 _ _ _ ho ⟨λ_=>e1,(λhh=>by cases hh),λ_=>rfl,hg0,hd,λ_ _=>⟨a,ha',hL _ (s1 _ (iK ..))⟩,?_⟩ (S LP HP hL hH);intro _ hh;rw[qgT hld]at hh;cases hh
  cases hg:o.guard with
  |none=>simp only[Gn,hg]at e;exact yes kn KN (λg hh=>by rw[hg]at hh;cases hh) e
  |some g=>
   simp only[Gn,hg,qH]at e;obtain⟨d,hd,vg,hvg,e⟩:=e;rcases qXB KN (T d vg hvg) e with⟨hw,e⟩ |⟨hw,e⟩
   ·exact yes _ (KN.more (T d vg hvg) hw) (λg' hh=>by rw[hg]at hh;cases hh;exact⟨d,vg,hd,T d vg hvg,hw.symm⟩) e
   ·obtain⟨tm1,e,T1,hdst⟩:=G5 T e;obtain⟨tm',h',F',ls',hs',e',T',s1,s2,S⟩:=ih (j+1) _ tm1 _ h ls hs k hl' T1 (KN.more (T d vg hvg) hw).drop e;refine⟨tm',h',F',ls',hs',e',T',s1,s2,λLP HP hL hH=>?_⟩;rw[show j+(o::l).length=j+1+l.length by simp;omega];refine .cons j o F h .undef false h _ _ _ ho ⟨(λhh=>by cases hh),λ_=>⟨rfl,rfl⟩,(λhh=>by rw[hg]at hh;cases hh),?_,hdst,(λhh=>by cases hh),(λhh=>by cases hh)⟩ (S LP HP hL hH);intro g' hh;rw[hg]at hh;cases hh;exact⟨d,vg,hd,T d vg hvg,hw.symm⟩
end Go.Ae
namespace Go.Ae
open Go
variable {P:Program} {c:CV}
theorem qKN (hc:yI P c) {o:Oper} {r:Operand→Option AV} {h h':AH} {v:AV} {m:Mp} {D:Nat→Prop} {w:World} (hr:∀x v,r x=some v→inD D v) (RR:Rel P m D h w)
  (e:opS P c o.op r h=some (v,h')):∃m' D' w',Ext m D h w m' D' h' w'∧Rel P m' D' h' w'∧inD D' v:=by
 let ρ:Operand→Value:=λx=>match r x with |some v=>cv m v |none=>undef
 have hρ:OpV m D ρ r:=λx u hu=>⟨by simp only[ρ,hu],hr x u hu⟩;by_cases hv:∃cl f,o.op=.call cl∧cl.callee=.value f
 ·obtain⟨cl,f,ho,hcal⟩:=hv;unfold opS at e;rw[ho]at e;simp only[opK,hcal,qH]at e;obtain⟨vf,hvf,va,hva,e⟩:=e;obtain⟨f1,f2⟩:=hρ _ _ hvf;obtain⟨v1,v2⟩:=QD hρ hva;rw[QR]at e
  split at e
  ·rename_i q hq;simp only[Option.some.injEq,Prod.mk.injEq]at e;obtain⟨rfl,rfl⟩:=e;have hok:=hc vf va h q hq m D w RR f2 v2;cases vf<;>simp only[ZO]at hok
   case fn f' first cap=>obtain⟨e,w',fr,hR,_⟩:=(hok.2 0).2 [] (room_wide _);obtain⟨m',D',_,hx,hrel,hd⟩:=hR;exact⟨m',D',w',hx,hrel,hd⟩
   case yield l=>obtain⟨f',tmps,assign,body,k1,k2⟩:=hok;obtain⟨e,w',hR,_⟩:=(k2 0).2 default [] (room_wide _);obtain⟨m',D',_,hx,hrel,hd⟩:=hR;exact⟨m',D',w',hx,hrel,hd⟩
  ·cases e
 ·have hnv:∀cl f,o.op=.call cl→cl.callee≠.value f:=λcl f h1 h2=>hv ⟨cl,f,h1,h2⟩;by_cases hi:∃cl x name,o.op=.call cl∧cl.callee=.invoke x name
  ·obtain⟨cl,x,name,ho,hcal⟩:=hi;unfold opS at e;rw[ho]at e;simp only[opK,hcal,qH]at e;obtain⟨vx,hvx,va,hva,e⟩:=e;obtain⟨f1,f2⟩:=hρ _ _ hvx;obtain⟨v1,v2⟩:=QD hρ hva;unfold yR at e
   split at e
   ·rename_i t y;cases hf:UV (ZL P name) t with
    |none=>rw[hf]at e;cases e
    |some f=>
     rw[hf]at e;simp only[QR]at e
     split at e
     ·rename_i q hq;simp only[Option.some.injEq,Prod.mk.injEq]at e;obtain⟨rfl,rfl⟩:=e;have hok:=hc (.fn f [] []) (y::va) h q hq m D w RR ⟨trivial,trivial⟩ ⟨f2,v2⟩;obtain⟨e,w',fr,hR,_⟩:=(hok.2 0).2 [] (room_wide _);obtain⟨m',D',_,hx,hrel,hd⟩:=hR;exact⟨m',D',w',hx,hrel,hd⟩
     ·cases e
   ·cases e
  have hni:∀cl x n,o.op=.call cl→cl.callee≠.invoke x n:=λcl x n h1 h2=>hi ⟨cl,x,n,h1,h2⟩;obtain⟨m',D',w',_,ex,re,hd⟩:=qya (o:=o) hnv hni hρ RR e;exact⟨m',D',w',ex,re,hd⟩
def Dg (D:Nat→Prop) (H:Nat→AH) (i:Nat):Nat→Prop:=λb=>D b∨((H 0).nx≤b∧b<(H i).nx)
theorem Ext.dom_eq {m m':Mp} {D D':Nat→Prop} {h h':AH} {w w':World} (e:Ext m D h w m' D' h' w'):D'=λb=>D b∨(h.nx≤b∧b<h'.nx):=funext λb=>propext (e.dm b)
structure Gh (P:Program) (D:Nat→Prop) (H:Nat→AH) (F:Nat→Nat→Option AV) (i:Nat):Prop where
  nx:(H 0).nx≤(H i).nx
  un:∀b,b<(H 0).nx→¬D b→(H i).get b=(H 0).get b
  blk:∀b,Dg D H i b→∃x,(H i).get b=some x∧inDB (Dg D H i) x
  slot:∀t v,F i t=some v→inD (Dg D H i) v
  ni:∀b t,Dg D H i b→(H i).get b=some (.inp t)→D b∧(H 0).get b=some (.inp t)
theorem qwu {D:Nat→Prop} {F:Nat→Option AV} (hF:∀t v,F t=some v→inD D v):∀x v,evF F x=some v→inD D v:=by
 intro x v e;cases x with
 |tmp t=>exact hF t v e
 |const k=>exact(JX (m:=λ_=>(0,0)) (D:=D) e).2
 |global g=>cases e
 |func f=>cases e;exact⟨trivial,trivial⟩
theorem qJN (hc:yI P c) {n:Nat} {ops:Array Oper} {LP:J8→Prop} {HP:JA→Prop} {F:Nat→Nat→Option AV} {H:Nat→AH} {V:Nat→AV} {W:Nat→Bool}
  (T:Tr P c n ops LP HP F H V W) {m:Mp} {D:Nat→Prop} {w:World} (RR:Rel P m D (H 0) w) (h0:∀t v,F 0 t=some v→inD D v) :
  ∀i,i≤ops.size→(∃m' w',Ext m D (H 0) w m' (Dg D H i) (H i) w'∧Rel P m' (Dg D H i) (H i) w'∧∀t v,F i t=some v→inD (Dg D H i) v)∧(∀j,j<i→(H j).nx≤(H (j+1)).nx∧inD (Dg D H (j+1)) (V j)):=by
 intro i
 induction i with
 |zero=>intro _;have hD:Dg D H 0=D:=funext λb=>propext ⟨λh=>h.elim id λh=>by omega,.inl⟩;rw[hD];exact⟨⟨m,w,Ext.refl ..,RR,h0⟩,λj hj=>by omega⟩
 |succ i ih=>
  intro hi;obtain⟨⟨m1,w1,X1,R1,s1⟩,hb⟩:=ih omQ;obtain⟨o,ho⟩:∃o,ops[i]? =some o:=⟨_,Array.getElem?_eq_getElem omQ⟩;obtain⟨st,hF⟩:=T.step i o ho;have key:∃m' w',Ext m1 (Dg D H i) (H i) w1 m' (Dg D H (i+1)) (H (i+1)) w'∧Rel P m' (Dg D H (i+1)) (H (i+1)) w'∧inD (Dg D H (i+1)) (V i):=by
   cases hw:W i with
   |true=>
    obtain⟨m',D',w',X,R',hv⟩:=qKN hc (o:=o) (qwu s1) R1 (st.yes hw);have hD:D'=Dg D H (i+1):=by
     rw[X.dom_eq];have:=X1.nx;have:=X.nx
     funext b
     simp only[Dg,eq_iff_iff];constructor
     ·rintro((h |h) |h)
      ·exact .inl h
      ·exact .inr ⟨h.1,by omega⟩
      ·exact .inr ⟨by omega,h.2⟩
     ·rintro(h |h)
      ·exact .inl (.inl h)
      ·by_cases hx:b<(H i).nx
       ·exact .inl (.inr ⟨h.1,hx⟩)
       ·exact .inr ⟨by omega,h.2⟩
    subst hD;exact⟨m',w',X,R',hv⟩
   |false=>
    obtain⟨e1,e2⟩:=st.no hw;have hD:Dg D H (i+1)=Dg D H i:=by unfold Dg;rw[e2]
    rw[hD,e2,e1];exact⟨m1,w1,Ext.refl ..,R1,trivial⟩
  obtain⟨m2,w2,X2,R2,hv⟩:=key;refine⟨⟨m2,w2,X1.trans X2,R2,?_⟩,?_⟩
  ·intro t v ht;rw[hF]at ht;unfold upd at ht
   split at ht
   ·cases ht;exact hv
   ·exact X2.inD (s1 t v ht)
  ·intro j hj;by_cases hji:j=i
   ·subst hji;exact⟨X2.nx,hv⟩
   ·exact hb j omQ
theorem qqD (hc:yI P c) {n:Nat} {ops:Array Oper} {LP:J8→Prop} {HP:JA→Prop} {F:Nat→Nat→Option AV} {H:Nat→AH} {V:Nat→AV} {W:Nat→Bool}
  (T:Tr P c n ops LP HP F H V W) {m:Mp} {D:Nat→Prop} {w:World} (RR:Rel P m D (H 0) w) (h0:∀t v,F 0 t=some v→inD D v) {i:Nat} (hi:i≤ops.size):Gh P D H F i:=by
 obtain⟨⟨m',w',X,R',s⟩,_⟩:=qJN hc T RR h0 i hi;refine⟨X.nx,λb hb hn=>(X.un b hb hn).1,?_,s,X.ni⟩;intro b hb;obtain⟨x,hx,_,hd⟩:=R'.blk b hb;exact⟨x,hx,hd⟩
end Go.Ae
