/- The abstract executor of the program's form in Lean, shown sound: regions that draw their order: what an operation looks at; the walk in the text's order. -/
import Derived.Test.YtemjbhdofokbhaaGreatDoorMachineGoesAe4
namespace Go.Ae
open Go
variable {P:Program} {c:CV} {r r':Operand→Option AV} {h h':AH} {v:AV}
theorem kR {l:List Operand} (hr:∀x∈l,r x=r' x):kK r l=kK r' l:=by
 induction l with
 |nil=>rfl
 |cons a l ih=>simp only[kK,hr a (iK ..),ih λx hx=>hr x (iX _ hx)]
theorem Gf {pl:Nat→Option (Nat×Nat)} {l:List (Nat×Operand)} (hr:∀x∈l.map (·.2),r x=r' x):yb pl r l=yb pl r' l:=by
 induction l with
 |nil=>rfl
 |cons a l ih=>obtain⟨i,x⟩:=a;simp only[yb,hr x aW,ih λx hx=>hr x (by simp at hx ⊢;exact .inr hx)]
theorem Nq {x:Option Operand} (hr:∀y∈x,r y=r' y):Kz r x=Kz r' x:=by
 cases x with
 |none=>rfl
 |some x=>simp only[Kz,hr x rfl]
theorem qqA {o:Op} {k:AV→AH→R} (hr:∀x∈o.operands,r x=r' x):bC P c o r h k=bC P c o r' h k:=by
 cases o with
 |call cl=>
  have ha:∀x∈cl.args.toList,r x=r' x:=λx hx=>hr x (by simp only[Op.operands,Call.operands];simp at hx ⊢;exact .inr hx);cases hc:cl.callee with
  |value f=>have hf:r f=r' f:=hr f (by simp[Op.operands,Call.operands,hc]);simp only[bC,hc,hf,kR ha]
  |invoke x name=>have hx:r x=r' x:=hr x (by simp[Op.operands,Call.operands,hc]);simp only[bC,hc,hx,kR ha]
  |builtin b=>
   cases b<;>simp only[bC,hc]
   case len=>
    generalize cl.argTypes.toList=ts at*;revert ha;generalize cl.args.toList=xs;intro ha;rcases xs with _ |⟨x,xs⟩<;>rcases ts with _ |⟨t,ts⟩<;>simp only[]
    rw[ha x (iK ..)]
   case min=>rw[kR ha]
   case max=>rw[kR ha]
   case append=>
    generalize cl.argTypes.toList=ts at*;revert ha;generalize cl.args.toList=xs;intro ha;rcases xs with _ |⟨s,_ |⟨x,_ |⟨y,xs⟩⟩⟩<;>rcases ts with _ |⟨t,_ |⟨u,ts⟩⟩<;>simp only[]
    rw[ha s aW,ha x aW]
 |build t ps=> 
  have hp:∀pl,yb pl r ps.toList=yb pl r' ps.toList:=λpl=>Gf λx hx=>hr x (by simpa[Op.operands]using hx);simp only[bC,hp]
 |buildSlice t n ps=> 
  have hp:∀pl,yb pl r ps.toList=yb pl r' ps.toList:=λpl=>Gf λx hx=>hr x (by simpa[Op.operands]using hx);simp only[bC,hp]
 |makeFunc fn a cp=>have h1:kK r a.toList=kK r' a.toList:=kR λx hx=>hr x (by simp[Op.operands]at hx ⊢;exact .inl hx);have h2:kK r cp.toList=kK r' cp.toList:=kR λx hx=>hr x (by simp[Op.operands]at hx ⊢;exact .inr hx);simp only[bC,h1,h2]
 |slice t x lo hi mx=>have h1:=hr x (by simp[Op.operands]);have h2:Kz r lo=Kz r' lo:=Nq λy hy=>hr y (by simp[Op.operands];right;left;simpa using hy);have h3:Kz r hi=Kz r' hi:=Nq λy hy=>hr y (by simp[Op.operands];right;right;left;simpa using hy);simp only[bC,h1,h2,h3]
 |_=>
  simp only[bC]
  try simp only[Op.operands,List.mem_toArray,List.mem_cons,List.not_mem_nil,or_false,forall_eq_or_imp,forall_eq]at hr
  try simp only[hr]
end Go.Ae
namespace Go.Ae
open Go
variable {P:Program} {c:CV} {r:Operand→Option AV} {h h':AH} {v:AV} {o:Op}
theorem jQl (hp:mi P o=.pure) (hc:JP P o=false) (hv:kP P o=false) (g:AH) (k:AV→AH→R):bC P c o r g k=bC P c o r h (λv _=>k v g):=by
 cases o with
 |convert s d x=>
  simp only[mi]at hp;simp only[kP]at hv;simp only[bC,Gs];refine qc λv=>?_;cases hs:P.underlying s with
  |none=>rfl
  |some ds=>
   cases hd:P.underlying d with
   |none=>rfl
   |some dd=>
    rw[hs,hd]at hp hv;cases dd with
    |int k=>cases ds<;>rfl
    |string=>cases ds<;>first |rfl |(cases hv;done) |(simp only[reduceCtorEq]at hp;done)
    |slice e=>cases ds<;>first |rfl |(simp only[reduceCtorEq]at hp;done)
    |_=>first |(simp only[reduceCtorEq]at hp;done) |rfl
 |slice t x lo hi mx=>
  simp only[JP]at hc;cases mx with
  |some _=>rfl
  |none=>
   simp only[bC];refine qc λ_=>qc λ_=>qc λ_=>?_;cases hu:P.underlying t with
   |none=>rfl
   |some d=>cases d<;>first |rfl |(rw[hu]at hc;cases hc)
 |call cl=>
  simp only[mi]at hp;cases fF:cl.callee with
  |value f=>rw[fF]at hp;cases hp
  |invoke a b=>rw[fF]at hp;cases hp
  |builtin b=> 
   rw[fF]at hp;cases b
   all_goals first |(simp only[bC,fF];done) |cases hp
 |_=>first |rfl |(simp only[mi,reduceCtorEq]at hp;done) |skip
theorem qKD (hp:mi P o=.pure) (hc:JP P o=false) (hv:kP P o=false) (e:cO P c o r h=some (v,h')):h'=h∧∀g,cO P c o r g=some (v,g):=by
 have key:∀g,cO P c o r g=some (v,g):=by intro g;unfold cO;rw[jQl hp hc hv (h:=h),qYT,show cO P c o r h=some (v,h')from e];rfl
 refine⟨?_,key⟩;have:=key h;rw[e]at this;cases this;rfl
def C0 (mk:Nat→AV):Prop:=mk=(λb=>.ptr b 0)∨∃l k o,mk=λb=>.slice b 0 l k o
theorem Ol (hp:mi P o=.fresh) (e:cO P c o r h=some (v,h')):∃mk x,C0 mk∧v=mk h.nx∧h'=h.new x∧∀g,cO P c o r g=some (mk g.nx,g.new x):=by
 have box:∀(t:TypeId) (u:AV),w5 h t u (λv h'=>some (v,h'))=some (v,h')→∃mk x,C0 mk∧v=mk h.nx∧h'=h.new x∧∀g,w5 g t u (λv h'=>some (v,h'))=some (mk g.nx,g.new x):=by intro t u e;unfold w5 at e;simp only[jC]at e;obtain⟨h1,e⟩:=e;cases e;exact⟨λb=>.ptr b 0,_,.inl rfl,rfl,rfl,λg=>by unfold w5;rw[h1];rfl⟩
 cases o with
 |alloc t=>unfold cO at e ⊢;simp only[bC,qC]at e ⊢;obtain⟨z,hz,e⟩:=e;obtain⟨mk,x,h1,h2,h3,h4⟩:=box _ _ e;exact⟨mk,x,h1,h2,h3,λg=>⟨z,hz,h4 g⟩⟩
 |box t y=>unfold cO at e ⊢;simp only[bC,qC]at e ⊢;obtain⟨z,hz,e⟩:=e;obtain⟨mk,x,h1,h2,h3,h4⟩:=box _ _ e;exact⟨mk,x,h1,h2,h3,λg=>⟨z,hz,h4 g⟩⟩
 |buildSlice t n ps=>
  unfold cO at e ⊢;simp only[bC,qC]at e ⊢;obtain⟨d,hd,e⟩:=e;cases d<;>simp only[reduceCtorEq]at e
  rename_i el;simp only[qC,yq]at e;obtain⟨z,hz,hle,vs,si,e⟩:=e;unfold xL at e;simp only[qC,jC]at e;obtain⟨cs,ph,h1,e⟩:=e;cases e;refine⟨λb=>.slice b 0 n n false,_,.inr ⟨n,n,false,rfl⟩,rfl,rfl,λg=>⟨_,hd,?_⟩⟩;simp only[qC,yq];refine⟨z,hz,hle,vs,si,?_⟩;unfold xL;simp only[qC,jC];exact⟨cs,ph,h1,rfl⟩
 |makeSlice t a b=>
  unfold cO at e ⊢;simp only[bC,qC]at e ⊢;obtain⟨d,hd,e⟩:=e;cases d<;>simp only[reduceCtorEq]at e
  rename_i el;simp only[qC]at e;obtain⟨z,hz,va,su,vb,P1,e⟩:=e;unfold JY at e
  split at e
  rotate_left
  ·cases e
  rename_i k1 ln k2 cp;simp only[jC]at e;obtain⟨h1,e⟩:=e;cases e;refine⟨λb=>.slice b 0 ln cp false,_,.inr ⟨ln,cp,false,rfl⟩,rfl,rfl,λg=>⟨_,hd,?_⟩⟩;simp only[qC];refine⟨z,hz,_,su,_,P1,?_⟩;unfold JY;simp only[jC];exact⟨h1,by trivial⟩
 |convert s d x=>
  simp only[mi]at hp
  split at hp
  ·cases hp
  ·split at hp<;>cases hp
  ·rename_i el hd
   split at hp
   rotate_left
   ·cases hp
   rename_i hs;unfold cO at e ⊢;simp only[bC,Gs,hs,hd,qC]at e;obtain⟨u,hu,e⟩:=e;cases e
  ·cases hp
 |call cl=>
  simp only[mi]at hp;cases fF:cl.callee with
  |value f=>rw[fF]at hp;cases hp
  |invoke a b=>rw[fF]at hp;cases hp
  |builtin b=>
   rw[fF]at hp;cases b<;>first |(cases hp;done) |skip
   simp only[]at hp
   split at hp
   ·split at hp<;>cases hp
   ·cases hp
 |_=>simp only[mi,reduceCtorEq]at hp
theorem ED {a b:Int} (h:nr a b=true):a=b:=by rw[Nk]at h;simpa using h
theorem EF {a b:List UInt8} (h:lu a b=true):a=b:=by rw[li]at h;simpa using h
mutual
theorem Un:∀{a b:AV},gM a b=true→a=b
 | .bool a,.bool b,h=>by simp only[gM,beq_iff_eq]at h;rw[h]
 | .int k a,.int k' b,h=>by simp only[gM,Bool.and_eq_true,beq_iff_eq]at h;rw[h.1,ED h.2]
 | .str a,.str b,h=>by simp only[gM]at h;rw[EF h]
 | .ptr b o,.ptr b' o',h=>by simp only[gM,Bool.and_eq_true]at h;rw[zC h.1,zC h.2]
 | .ba,.ba,_=>rfl
 | .slice b o l c p,.slice b' o' l' c' p',h=>by simp only[gM,Bool.and_eq_true,beq_iff_eq]at h;rw[zC h.1,zC h.2.1,zC h.2.2.1,zC h.2.2.2.1,h.2.2.2.2]
 | .ap,.ap,_=>rfl
 | .fn f a c,.fn f' a' c',h=>by simp only[gM,Bool.and_eq_true]at h;rw[zC h.1,Ka h.2.1,Ka h.2.2]
 | .yield l,.yield l',h=>by simp only[gM]at h;rw[zC h]
 | .eG,.eG,_=>rfl
 | .iface t v,.iface t' v',h=>by simp only[gM,Bool.and_eq_true]at h;rw[zC h.1,Un h.2]
 | .dt,.dt,_=>rfl
 | .agg l,.agg l',h=>by simp only[gM]at h;rw[Ka h]
 | .cn l,.cn l',h=>by simp only[gM]at h;rw[Ka h]
 | .cA a,.cA a',h=>by simp only[gM,decide_eq_true_eq]at h;rw[h]
 | .tail b o o' i,.tail b' p p' j,h=>by simp only[gM,Bool.and_eq_true]at h;rw[zC h.1,zC h.2.1,zC h.2.2.1,zC h.2.2.2]
 | .eV b,.eV b',h=>by simp only[gM]at h;rw[zC h]
theorem Ka:∀{a b:List AV},K7 a b=true→a=b
 |[],[],_=>rfl
 |a::r,b::s,h=>by simp only[K7,Bool.and_eq_true]at h;rw[Un h.1,Ka h.2]
end
end Go.Ae
namespace Go.Ae
open Go
variable {P:Program} {c:CV} {r:Operand→Option AV} {h h':AH} {v:AV} {o:Op}
theorem NU {t:TypeId} {x:Operand} (e:cO P c (.load t x) r h=some (v,h')):h'=h∧∃b off,r x=some (.ptr b off)∧
  (∀g,g.get b=h.get b→cO P c (.load t x) r g=some (v,g))∧(∀g,xv (.ptr b off) (kJ P (.load t x)) v g=true→cO P c (.load t x) r g=some (v,g)):=by
 unfold cO at e;simp only[bC,qC]at e;obtain⟨a,ha,i,hi,e⟩:=e;have hn:kJ P (.load t x)=i:=by simp only[kJ,hi]
 rw[hn];cases i with
 |none=>
  simp only[gS]at e
  split at e
  rotate_left
  ·cases e
  rename_i b off;have hz:∃z,(∀g,g.get b=h.get b→ji g (.ptr b off) (λz=>some (z,g))=some (z,g))∧(v,h')=(z,h):=by
   split at e
   ·rename_i cs t' op hg;simp only[qC]at e;obtain⟨z,hz,e⟩:=e;cases e;exact⟨_,λg BF=>by simp only[gS,BF,hg,hz],rfl⟩
   ·rename_i ti hg;simp only[qC]at e;obtain⟨z,hz,e⟩:=e;cases e;exact⟨_,λg BF=>by simp only[gS,BF,hg,hz],rfl⟩
   ·cases e
  obtain⟨z,hz,e⟩:=hz;cases e;refine⟨rfl,b,off,ha,?_,?_⟩
  ·intro g BF;unfold cO;simp only[bC,qC];exact⟨_,ha,_,hi,hz g BF⟩
  ·intro g hl;unfold cO;simp only[bC,qC];refine⟨_,ha,_,hi,?_⟩;simp only[xv]at hl
   split at hl
   ·rename_i Pd t2 op2 pu
    split at hl
    ·rename_i y hy;have:=Un hl;subst this;simp only[gS,pu,qC];exact⟨_,hy,rfl⟩
    ·cases hl
   ·rename_i ti pu
    split at hl
    ·rename_i y hy;have:=Un hl;subst this;simp only[gS,pu,qC];exact⟨_,hy,rfl⟩
    ·cases hl
   ·cases hl
 |some n=>
  simp only[kU]at e
  split at e
  rotate_left
  ·cases e
  rename_i b off;simp only[qC]at e;obtain⟨z,hz,e⟩:=e;cases e;refine⟨rfl,b,off,ha,?_,?_⟩
  ·intro g BF;unfold cO;simp only[bC,qC];refine⟨_,ha,_,hi,?_⟩;simp only[kU,qC];refine⟨z,?_,rfl⟩;unfold vv at hz ⊢;rw[BF];exact hz
  ·intro g hl;unfold cO;simp only[bC,qC];refine⟨_,ha,_,hi,?_⟩;simp only[kU,qC];simp only[xv]at hl
   split at hl
   ·rename_i Pd t2 op2 pu
    split at hl
    ·rename_i y hy;have:=Un hl;cases this;refine⟨_,?_,rfl⟩;unfold vv;rw[pu];exact hy
    ·cases hl
   ·rename_i ti pu
    split at hl
    ·rename_i y hy;have:=Un hl;cases this;refine⟨_,?_,rfl⟩;unfold vv;rw[pu];exact hy
    ·cases hl
   ·cases hl
theorem GZ (hl:MC o=true):∃t x,o=.load t x:=by
 cases o<;>first |exact⟨_,_,rfl⟩ |cases hl
theorem IR (a b:Nat) (h:b+1≤65536):(a*65536+b)/65536=a∧(a*65536+b)%65536=b:=by omega
theorem Z0 (hc:JP P o=true) (e:cO P c o r h=some (v,h')):h'=h∧∃x∈o.operands,∃u,r x=some u∧YZ r o=some u∧
  (∀g,(∀b off l i,u=.slice b off l i true→g.get b=h.get b)→cO P c o r g=some (v,g))∧(∀g,xv u (kJ P o) v g=true→cO P c o r g=some (v,g)):=by
 cases o<;>try (cases hc;done)
 rename_i t x lo hi mx;unfold cO at e;cases mx with
 |some _=>cases e
 |none=>
  simp only[bC,qC]at e;obtain⟨u,hu,l,hl,q,hq,d,hd,e⟩:=e;cases d<;>first |(simp only[reduceCtorEq]at e;done) |skip
  case string=>simp only[JP,hd]at hc;cases hc
  case array n el=>simp only[JP,hd]at hc;cases hc
  case slice el=>
   simp only[qC]at e;obtain⟨sz,bP,e⟩:=e;have key:∀g:AH,(∀b off l i,u=.slice b off l i true→g.get b=h.get b)→yh g el sz u l q (λz=>some (z,g))=cT (yh h el sz u l q (λz=>some (z,h))) (λv _=>some (v,g)):=by
    intro g hg;rw[PL];unfold yh
    split
    ·rfl
    ·rename_i b off len i0;have:vo g el b off sz i0 len=vo h el b off sz i0 len:=by unfold vo;rw[hg b off len i0 rfl]
     rw[this]
    ·rfl
    ·rfl
    ·rfl
   have EG:∀g:AH,(∀b off l i,u=.slice b off l i true→g.get b=h.get b)→cO P c (.slice t x lo hi none) r g=some (v,g):=by intro g hg;unfold cO;simp only[bC,qC];refine⟨u,hu,l,hl,q,hq,_,hd,?_⟩;simp only[qC];refine⟨sz,bP,?_⟩;rw[key g hg,e];rfl
   have P2:∀g:AH,xv u (kJ P (.slice t x lo hi none)) v g=true→cO P c (.slice t x lo hi none) r g=some (v,g):=by
    intro g hg;unfold cO;simp only[bC,qC];refine⟨u,hu,l,hl,q,hq,_,hd,?_⟩;simp only[qC];refine⟨sz,bP,?_⟩;have e0:yh g el sz u l q (λz=>some (z,g))=cT (yh h el sz u l q (λz=>some (z,h))) (λv _=>some (v,g)):=by
     rw[PL];unfold yh at e ⊢
     split at e
     ·rfl
     ·rename_i b off len i0;simp only[kJ,hd,bP]at hg;cases hb:Nat.ble (sz+1) 65536
      ·rw[hb]at hg;cases hg
      ·rw[hb]at hg;simp only[cond_true,xv]at hg;have h1:=wA hb;rw[(IR el sz h1).1,(IR el sz h1).2]at hg;cases hf:vo h el b off sz i0 len
       ·rw[hf]at e;cases e
       ·simp only[hg]
     ·rfl
     ·rfl
     ·rfl
    rw[e0,e];rfl
   refine⟨?_,x,by simp[Op.operands],u,hu,hu,EG,P2⟩;have:=EG h (λ_ _ _ _ _=>rfl);have e2:cO P c (.slice t x lo hi none) r h=some (v,h'):=by unfold cO;simp only[bC,qC];refine⟨u,hu,l,hl,q,hq,_,hd,?_⟩;simp only[qC];exact⟨sz,bP,e⟩
   rw[e2]at this;cases this;rfl
theorem qY7 {s:List UInt8} (hc:JP P o=true) (e:cO P c o r h=some (.str s,h')):False:=by
 cases o<;>try (cases hc;done)
 rename_i t x lo hi mx;unfold cO at e;cases mx with
 |some _=>cases e
 |none=>
  simp only[bC,qC]at e;obtain⟨u,hu,l,hl,q,hq,d,hd,e⟩:=e;cases d<;>first |(simp only[reduceCtorEq]at e;done) |skip
  case string=>simp only[JP,hd]at hc;cases hc
  case array n el=>simp only[JP,hd]at hc;cases hc
  case slice el=>
   simp only[qC]at e;obtain⟨sz,bP,e⟩:=e;unfold yh at e
   split at e
   ·simp only[qC]at e;obtain⟨_,_,_,_,e⟩:=e;cases e
   ·simp only[jC,qC]at e;obtain⟨_,_,_,k,_,e⟩:=e;cases h1:Nat.beq k 0<;>rw[h1]at e
    ·simp only[cond_false]at e;rename_i len _ _ _ _ _;cases h2:Nat.ble (k+1) len<;>rw[h2]at e<;>cases e
    ·cases e
   ·simp only[qC]at e;obtain⟨_,_,_,_,e⟩:=e;cases e
   ·simp only[qC]at e;obtain⟨_,_,_,_,e⟩:=e;cases e
   ·cases e
theorem Nw (hc:kP P o=true) (e:cO P c o r h=some (v,h')):h'=h∧kJ P o=none∧(∃s,v=.str s)∧∃x∈o.operands,∃u,r x=some u∧YZ r o=some u∧
  ∀g,(∀b off l i p,u=.slice b off l i p→g.get b=h.get b)→cO P c o r g=some (v,g):=by
 cases o<;>try (cases hc;done)
 rename_i s d x;simp only[kP]at hc
 split at hc
 rotate_left
 ·cases hc
 rename_i hd
 split at hc
 rotate_left
 ·cases hc
 rename_i el hs;unfold cO at e;simp only[bC,Gs,hs,hd,qC,Option.some.injEq,exists_eq_left']at e;obtain⟨u,hu,de,IG,e⟩:=e;cases de<;>first |(cases e;done) |skip
 rename_i k;cases k<;>first |(cases e;done) |skip
 replace e:KZ h u (λz=>some (z,h))=some (v,h'):=e
 have key:∀g,(∀b off l i p,u=.slice b off l i p→g.get b=h.get b)→(∃s,v=.str s)∧h'=h∧cO P c (.convert s d x) r g=some (v,g):=by
  intro g hg;have go:∀z,KZ g u (λy=>some (y,g))=some (z,g)→cO P c (.convert s d x) r g=some (z,g):=λz hz=>by
   unfold cO;simp only[bC,Gs,hs,hd,qC,Option.some.injEq,exists_eq_left'];exact⟨u,hu,_,IG,hz⟩
  unfold KZ at e
  split at e
  ·cases e;exact⟨⟨_,rfl⟩,rfl,go _ rfl⟩
  ·rename_i b off len i p;simp only[qC]at e;obtain⟨cs,ph,t,ht,e⟩:=e;cases e;refine⟨⟨_,rfl⟩,rfl,go _ ?_⟩;unfold KZ;simp only[qC];refine⟨cs,?_,t,ht,rfl⟩;unfold vv at ph ⊢;rw[hg _ _ _ _ _ rfl];exact ph
  ·cases e
 obtain⟨k1,k2,_⟩:=key h (λ_ _ _ _ _ _=>rfl);exact⟨k2,rfl,k1,x,by simp[Op.operands],u,hu,hu,λg hg=>(key g hg).2.2⟩
theorem jJ1 (hl:kP P o=true):∃s d x,o=.convert s d x:=by
 cases o<;>first |exact⟨_,_,_,rfl⟩ |cases hl
theorem qG5 (hl:kP P o=true):zm P o=false:=by
 obtain⟨s,d,x,rfl⟩:=jJ1 hl;simp only[kP]at hl
 split at hl
 ·rename_i hd
  split at hl
  ·rename_i el hs;simp only[zm,mi,hd,hs]
  ·cases hl
 ·cases hl
theorem qyd (l:List Nat) (t:Nat):(DR l).testBit t=l.any λa=>a.testBit t:=by
 induction l with
 |nil=>simp[DR]
 |cons a l ih=>simp[DR,ih]
theorem Z2 (t s:Nat):(bit t).testBit s=decide (t=s):=by unfold bit;rw[Nat.testBit_two_pow]
theorem Gd {all:List Oper} {o:Oper} {t:Nat} (h:.tmp t∈o.op.operands):(looks all o).testBit t=true:=by unfold looks;rw[Nat.testBit_or,qyd];simp only[Bool.or_eq_true,List.any_eq_true,List.mem_map];exact .inl ⟨_,⟨.tmp t,by simpa using h,rfl⟩,by simp[WO,Z2]⟩
theorem qJn {all:List Oper} {o:Oper} {g:Nat×Bool} {d:Nat} (hg:o.guard=some g) (hd:QB all o=some d):(looks all o).testBit d=true:=by unfold looks;rw[Nat.testBit_or,hg];simp[hd,Z2]
theorem Xn (o:Oper) (t:Nat):(Xt o).testBit t=decide (o.dst=some t):=by
 unfold Xt;cases o.dst with
 |none=>simp
 |some d=>simp[Z2]
theorem Mx {a b:Nat} (h:Nat.beq (a&&&b) 0=true) (t:Nat) (ha:a.testBit t=true):b.testBit t=false:=by have h:=zC h;have:=congrArg (λx=>x.testBit t) h;simp only[Nat.testBit_and,Nat.zero_testBit,ha,Bool.true_and]at this;exact this
end Go.Ae
namespace Go.Ae
open Go
variable {P:Program}
def Va (e:Edge):Bool:=Region.binds .any e
theorem YK {j:Nat} {l:List Edge} (h:Q3 j l=true):∀e∈l,Va e=true→e.on<j:=by
 induction l with
 |nil=>intro e he;cases he
 |cons a l ih=>
  simp only[Q3,Bool.and_eq_true]at h;intro e he hb;rcases List.mem_cons.1 he with rfl |he
  ·have h1:=h.1;unfold Va at hb;rw[hb]at h1;exact zE h1
  ·exact ih h.2 e he hb
def Vf (mk wj lj:Nat) (e:DT):Prop:=mk.testBit e.i=true∨(Nat.beq (e.w&&&(lj|||wj)) 0=true∧Nat.beq (wj&&&e.l) 0=true)
theorem qXn {mk wj lj:Nat} {l:List DT} (h:It mk wj lj l=true):∀e∈l,Vf mk wj lj e:=by
 induction l with
 |nil=>intro e he;cases he
 |cons a l ih=>
  simp only[It,Bool.and_eq_true,Bool.or_eq_true]at h;intro e he;rcases List.mem_cons.1 he with rfl |he
  ·exact h.1
  ·exact ih h.2 e he
theorem qjn {t:PT Nat} {all:List Oper}:∀(l:List Oper) (j:Nat) (es:List DT),ui t all l j es=true→∀k o,l[k]? =some o→Q3 (j+k) o.after.toList=true∧
  (∀e∈es,Vf (xj t (j+k)) (Xt o) (looks all o) e)∧∀i oi,i<k→l[i]? =some oi→Vf (xj t (j+k)) (Xt o) (looks all o) ⟨j+i,Xt oi,looks all oi⟩:=by
 intro l
 induction l with
 |nil=>intro j es _ k o hk;simp at hk
 |cons a l ih=>
  intro j es h k o hk;simp only[ui,Bool.and_eq_true]at h;obtain⟨h1,h2,h3⟩:=h;cases k with
  |zero=>simp at hk;subst hk;exact⟨h1,qXn h2,λi oi hi=>by omega⟩
  |succ k=>
   simp at hk;obtain⟨g1,g2,g3⟩:=ih (j+1) _ h3 k o hk;rw[show j+1+k=j+(k+1) by omega]at g1 g2 g3;refine⟨g1,λe he=>g2 e (iX _ he),?_⟩;intro i oi hi mu;cases i with
   |zero=>simp at mu;subst mu;exact g2 _ (iK ..)
   |succ i=>
    simp at mu;have:=g3 i oi omQ mu
    rwa [show j+1+i=j+(i+1) by omega]at this
theorem qKL:∀(l:List Oper) (j:Nat) (t:PT Nat) (i:Nat),i<j→(kq l j t).get i=t.get i:=by
 intro l
 induction l with
 |nil=>intro j t i _;rfl
 |cons a l ih=>intro j t i hi;simp only[kq];rw[ih _ _ _ omQ,PT.bZ,iQ omQ]
theorem qVF:∀(l:List Oper) (j:Nat) (t:PT Nat) (k:Nat) (o:Oper),l[k]? =some o→∃T:PT Nat,(∀i,i<j+k→(kq l j t).get i=T.get i)∧
  (kq l j t).get (j+k)=some (o.after.toList.foldl (λs e=>bif Region.binds .any e then s|||(2 ^ e.on|||xj T e.on)else s) 0):=by
 intro l
 induction l with
 |nil=>intro j t k o hk;simp at hk
 |cons a l ih=>
  intro j t k o hk;cases k with
  |zero=>
   simp at hk;subst hk;refine⟨t,?_,?_⟩
   ·intro i hi;simp only[kq];rw[qKL _ _ _ _ omQ,PT.bZ,iQ omQ]
   ·simp only[kq,Nat.add_zero];rw[qKL _ _ _ _ omQ,PT.bZ,iJ rfl];rfl
  |succ k=>simp at hk;obtain⟨T,h1,h2⟩:=ih (j+1) _ k o hk;rw[show j+1+k=j+(k+1) by omega]at h1 h2;exact⟨T,h1,h2⟩
theorem qja {T:PT Nat} {k:Nat}:∀(l:List Edge) (s:Nat),(l.foldl (λs e=>bif Region.binds .any e then s|||(2 ^ e.on|||xj T e.on)else s) s).testBit k=true→
  s.testBit k=true∨∃e∈l,Va e=true∧(k=e.on∨(xj T e.on).testBit k=true):=by
 intro l
 induction l with
 |nil=>intro s h;exact .inl h
 |cons a l ih=>
  intro s h;simp only[List.foldl_cons]at h;rcases ih _ h with h |⟨e,he,hb,hk⟩
  ·cases hb:Region.binds .any a
   ·rw[hb]at h;exact .inl h
   ·rw[hb]at h;simp only[cond_true,Nat.testBit_or,Bool.or_eq_true,Nat.testBit_two_pow,decide_eq_true_eq]at h;rcases h with h |h |h
    ·exact .inl h
    ·exact .inr ⟨a,iK ..,hb,.inl h.symm⟩
    ·exact .inr ⟨a,iK ..,hb,.inr h⟩
  ·exact .inr ⟨e,iX _ he,hb,hk⟩
theorem qgD {ops:Array Oper} {i k:Nat} {o:Oper} (ho:ops[i]? =some o) (hb:Q3 i o.after.toList=true) (h:(xj (kq ops.toList 0 .e) i).testBit k=true) :
  ∃e∈o.after,Va e=true∧e.on<i∧(k=e.on∨(xj (kq ops.toList 0 .e) e.on).testBit k=true):=by
 obtain⟨T,h1,h2⟩:=qVF ops.toList 0 .e i o (by simpa using ho);simp only[Nat.zero_add]at h1 h2;unfold xj at h;rw[h2]at h;simp only[]at h;rcases qja _ _ h with h |⟨e,he,C1,hk⟩
 ·simp at h
 ·have ax:=YK hb e he C1;have:xj (kq ops.toList 0 .e) e.on=xj T e.on:=by unfold xj;rw[h1 _ ax]
  exact⟨e,by simpa using he,C1,ax,by rw[this];exact hk⟩
theorem qVR {t:PT Nat} {s:Nat→Prop} (hs:∀a b,s a→(xj t a).testBit b=true→s b):∀(l:List Oper) (j:Nat) (last:Option Nat),chain P t l j last=true→
  ∀k o,l[k]? =some o→zm P o.op=true→s (j+k)→(∀i,last=some i→s i)∧∀i oi,i<k→l[i]? =some oi→zm P oi.op=true→s (j+i):=by
 intro l
 induction l with
 |nil=>intro j last _ k o hk;simp at hk
 |cons a l ih=>
  intro j last h k o hk hh oH;simp only[chain]at h;cases ha:zm P a.op
  ·rw[ha]at h;cases k with
   |zero=>simp at hk;subst hk;rw[ha]at hh;cases hh
   |succ k=>
    simp at hk;rw[show j+(k+1)=j+1+k by omega]at oH;obtain⟨g1,g2⟩:=ih (j+1) last h k o hk hh oH;refine⟨g1,?_⟩;intro i oi hi mu mH;cases i with
    |zero=>simp at mu;subst mu;rw[ha]at mH;cases mH
    |succ i=>
     simp at mu;have:=g2 i oi omQ mu mH
     rwa [show j+1+i=j+(i+1) by omega]at this
  ·rw[ha]at h;simp only[cond_true,Bool.and_eq_true]at h;obtain⟨h1,h2⟩:=h;have cu:s j→∀i,last=some i→s i:=by
    intro hj i hi;subst hi;exact hs j i hj h1
   cases k with
   |zero=>exact⟨cu oH,λi oi hi=>by omega⟩
   |succ k=>
    simp at hk;rw[show j+(k+1)=j+1+k by omega]at oH;obtain⟨g1,g2⟩:=ih (j+1) (some j) h2 k o hk hh oH;have hj:=g1 j rfl;refine⟨cu hj,?_⟩;intro i oi hi mu mH;cases i with
    |zero=>exact hj
    |succ i=>
     simp at mu;have:=g2 i oi omQ mu mH
     rwa [show j+1+i=j+(i+1) by omega]at this
theorem NP {t:PT Nat} {i:Nat}:∀(l:List Oper) (j:Nat),Y9 P t i l j=false→∀k o,l[k]? =some o→zm P o.op=true→kw t i (j+k)=false:=by
 intro l
 induction l with
 |nil=>intro j _ k o hk;simp at hk
 |cons a l ih=>
  intro j h k o hk hh;simp only[Y9,Bool.or_eq_false_iff]at h;cases k with
  |zero=>simp at hk;subst hk;have:=h.1;rw[hh]at this;simpa using this
  |succ k=>
   simp at hk;have:=ih (j+1) h.2 k o hk hh
   rwa [show j+1+k=j+(k+1) by omega]at this
theorem Ox {t:PT Nat} {p:Op→Bool} {all:List Oper}:∀(l:List Oper) (i:Nat),Y0 P p t all l i=false→∀k o,l[k]? =some o→p o.op=true→
  ∀j oj,all[j]? =some oj→zm P oj.op=true→kw t (i+k) j=false:=by
 intro l
 induction l with
 |nil=>intro j _ k o hk;simp at hk
 |cons a l ih=>
  intro i h k o hk hp j oj hj hh;simp only[Y0,Bool.or_eq_false_iff]at h;cases k with
  |zero=>simp at hk;subst hk;have h1:=h.1;rw[hp,Bool.true_and]at h1;have:=NP all 0 h1 j oj hj hh;simpa using this
  |succ k=>
   simp at hk;have:=ih (i+1) h.2 k o hk hp j oj hj hh
   rwa [show i+1+k=i+(k+1) by omega]at this
structure Stat (P:Program) (ops:Array Oper) (M:PT Nat):Prop where
  back:∀j o,ops[j]? =some o→∀e∈o.after,Va e=true→e.on<j
  pZ:∀i o k,ops[i]? =some o→(xj M i).testBit k=true→∃e∈o.after,Va e=true∧e.on<i∧(k=e.on∨(xj M e.on).testBit k=true)
  apart:∀i j oi oj,i<j→ops[i]? =some oi→ops[j]? =some oj→Vf (xj M j) (Xt oj) (looks ops.toList oj) ⟨i,Xt oi,looks ops.toList oi⟩
  chain:∀s:Nat→Prop,(∀a b,s a→(xj M a).testBit b=true→s b)→∀i j oi oj,i<j→ops[i]? =some oi→ops[j]? =some oj→zm P oi.op=true→zm P oj.op=true→s j→s i
theorem qyl {ops:Array Oper} (h:Iu P ops=true):Stat P ops (kq ops.toList 0 .e):=by
 simp only[Iu,Bool.and_eq_true]at h;obtain⟨h1,h2⟩:=h;have hl:=qjn _ _ _ h1;refine⟨?_,?_,?_,?_⟩
 ·intro j o ho e he hb;have:=(hl j o (by simpa using ho)).1;rw[Nat.zero_add]at this;exact YK this e (by simpa using he) hb
 ·intro i o k ho hk;have:=(hl i o (by simpa using ho)).1;rw[Nat.zero_add]at this;exact qgD ho this hk
 ·intro i j oi oj sB hi hj;have:=(hl j oj (by simpa using hj)).2.2 i oi sB (by simpa using hi);simpa only[Nat.zero_add]using this
 ·intro s hs i j oi oj sB hi hj mH Ra EH;have:=(qVR hs _ _ _ h2 j oj (by simpa using hj) Ra (by simpa using EH)).2 i oi sB (by simpa using hi) mH;simpa using this
end Go.Ae
namespace Go.Ae
open Go
variable {P:Program} {c:CV} {r r':Operand→Option AV} {h h':AH} {v:AV}
theorem jf {α:Type} {x y:Option α} {f g:α→R} {q:AV×AH} (hx:∀v,x=some v→y=some v) (hf:∀v,x=some v→f v=some q→g v=some q) (e:ob x f=some q):ob y g=some q:=by rw[qC]at e ⊢;obtain⟨a,ha,e⟩:=e;exact⟨a,hx a ha,hf a ha e⟩
theorem qqD (hr:∀x v,r x=some v→r' x=some v):∀(l:List Operand) (s:List AV),kK r l=some s→kK r' l=some s:=by
 intro l
 induction l with
 |nil=>intro s e;exact e
 |cons a l ih=>intro s e;simp only[kK,Option.bind_eq_some_iff]at e ⊢;obtain⟨x,hx,t,ht,e⟩:=e;exact⟨x,hr _ _ hx,t,ih _ ht,e⟩
theorem qJP (hr:∀x v,r x=some v→r' x=some v) {pl:Nat→Option (Nat×Nat)}:∀(l:List (Nat×Operand)) (s:List (Nat×Nat×AV)),yb pl r l=some s→yb pl r' l=some s:=by
 intro l
 induction l with
 |nil=>intro s e;exact e
 |cons a l ih=>intro s e;obtain⟨i,x⟩:=a;simp only[yb,Option.bind_eq_some_iff,Option.map_eq_some_iff]at e ⊢;obtain⟨p,hp,x,hx,t,ht,e⟩:=e;exact⟨p,hp,x,hr _ _ hx,t,ih _ ht,e⟩
theorem qj3 (hr:∀x v,r x=some v→r' x=some v) (x:Option Operand) (s:Option AV) (e:Kz r x=some s):Kz r' x=some s:=by
 cases x with
 |none=>exact e
 |some x=>simp only[Kz,Option.map_eq_some_iff]at e ⊢;obtain⟨y,hy,e⟩:=e;exact⟨y,hr _ _ hy,e⟩
theorem Mt {o:Op} {k:AV→AH→R} {q:AV×AH} (hr:∀x v,r x=some v→r' x=some v) (e:bC P c o r h k=some q):bC P c o r' h k=some q:=by
 have m1:=qqD hr;have m2:=λpl=>qJP hr (pl:=pl);have m3:=qj3 hr;cases o with
 |call cl=>
  cases hc:cl.callee with
  |value f=>simp only[bC,hc]at e ⊢;exact jf (hr _) (λ_ _=>jf (m1 _) λ_ _ e=>e) e
  |invoke x name=>simp only[bC,hc]at e ⊢;exact jf (hr _) (λ_ _=>jf (m1 _) λ_ _ e=>e) e
  |builtin b=>
   cases b<;>simp only[bC,hc,reduceCtorEq]at e ⊢
   case len=>
    generalize cl.argTypes.toList=ts at*;generalize cl.args.toList=xs at*;rcases xs with _ |⟨x,xs⟩<;>rcases ts with _ |⟨t,ts⟩<;>simp only[reduceCtorEq]at e ⊢
    exact jf (hr _) (λ_ _ e=>e) e
   case min=>exact jf (m1 _) (λ_ _ e=>e) e
   case max=>exact jf (m1 _) (λ_ _ e=>e) e
   case append=>
    generalize cl.argTypes.toList=ts at*;generalize cl.args.toList=xs at*;rcases xs with _ |⟨s,_ |⟨x,_ |⟨y,xs⟩⟩⟩<;>rcases ts with _ |⟨t,_ |⟨u,ts⟩⟩<;>simp only[reduceCtorEq]at e ⊢
    refine jf (λ_ e=>e) (λdu _ e=>?_) e;revert e
    split
    ·intro e;exact e
    ·refine jf (λ_ e=>e) (λd _ e=>?_);revert e
     split
     ·exact jf (λ_ e=>e) (λ_ _=>jf (hr _) λ_ _=>jf (hr _) λ_ _ e=>e)
     ·intro e;exact e
 |build t ps=>
  simp only[bC]at e ⊢;refine jf (λ_ e=>e) (λ_ _=>jf (λ_ e=>e) λd _ e=>?_) e;revert e
  split
  ·exact jf (λ_ e=>e) (λ_ _=>jf (m2 _ _) λ_ _ e=>e)
  ·exact jf (λ_ e=>e) (λ_ _=>jf (m2 _ _) λ_ _ e=>e)
  ·intro e;exact e
 |buildSlice t n ps=>
  simp only[bC]at e ⊢;refine jf (λ_ e=>e) (λd _ e=>?_) e;revert e
  split
  ·refine jf (λ_ e=>e) (λ_ _ e=>?_);rw[yq]at e ⊢;exact⟨e.1,jf (m2 _ _) (λ_ _ e=>e) e.2⟩
  ·intro e;exact e
 |makeFunc fn a cp=>
  simp only[bC]at e ⊢;revert e
  split
  ·exact jf (m1 _) (λ_ _=>jf (m1 _) λ_ _ e=>e)
  ·intro e;exact e
 |makeInterface t x=>
  simp only[bC]at e ⊢;refine jf (λ_ e=>e) (λd _ e=>?_) e;revert e
  split
  ·intro e;exact e
  ·exact jf (hr _) λ_ _ e=>e
 |makeSlice t a b=>
  simp only[bC]at e ⊢;refine jf (λ_ e=>e) (λd _ e=>?_) e;revert e
  split
  ·exact jf (λ_ e=>e) (λ_ _=>jf (hr _) λ_ _=>jf (hr _) λ_ _ e=>e)
  ·intro e;exact e
 |slice t x lo hi mx=>
  simp only[bC]at e ⊢;revert e
  split
  ·intro e;exact e
  ·exact jf (hr _) λ_ _=>jf (m3 _) λ_ _=>jf (m3 _) λ_ _ e=>e
 |pick a b d=>exact jf (hr _) (λ_ _=>jf (hr _) λ_ _=>jf (hr _) λ_ _ e=>e) e
 |store t a x=>exact jf (hr _) (λ_ _=>jf (hr _) λ_ _ e=>e) e
 |binOp op t x y u=>exact jf (hr _) (λ_ _=>jf (hr _) λ_ _ e=>e) e
 |indexAddr t x i=>exact jf (hr _) (λ_ _=>jf (hr _) λ_ _ e=>e) e
 |index t x i=>exact jf (hr _) (λ_ _=>jf (hr _) λ_ _ e=>e) e
 |alloc t=>exact e
 |_=>first |exact jf (hr _) (λ_ _ e=>e) e |(simp only[bC,reduceCtorEq]at e;done)
def cP (F:Nat→Option AV) (dst:Option Tmp) (v:AV):Nat→Option AV:=λt=>if dst=some t then some v else F t
def ff (F:Nat→Option AV):Operand→Option AV
 | .tmp t=>F t
 | .const v=>Nz v
 | .global _=>none
 | .func f=>some (.fn f [] [])
def Ql (tm:PT AV) (F:Nat→Option AV):Prop:=∀t v,tm.get t=some v→F t=some v
theorem IS {tm:PT AV} {F:Nat→Option AV} (h:Ql tm F):∀x v,ev tm x=some v→ff F x=some v:=by
 intro x v e;cases x with
 |tmp t=>exact h t v e
 |_=>exact e
def Qa:AV→Bool→Bool
 | .bool t,w=>t==w
 |_,_=>false
structure Rb (P:Program) (c:CV) (n:Nat) (ops:Array Oper) (LP:YX→Prop) (HP:Xw→Prop) (i:Nat) (o:Oper) (F:Nat→Option AV) (h:AH) (v:AV) (b:Bool) (h':AH):Prop where
  yes:b=true→cO P c o.op (ff F) h=some (v,h')
  no:b=false→v=.undef∧h'=h
  g0:o.guard=none→b=true
  g1:∀g,o.guard=some g→∃d vg,QB ops.toList o=some d∧F d=some vg∧b=Qa vg g.2
  dst:∀d,o.dst=some d→d<n
  ld:b=true→gB P o.op=true→∃a,YZ (ff F) o.op=some a∧LP ⟨i,a,kJ P o.op,v⟩
  hv:b=true→zm P o.op=true→HP ⟨i,h,h'⟩
inductive nF (P:Program) (c:CV) (n:Nat) (ops:Array Oper) (LP:YX→Prop) (HP:Xw→Prop):Nat→(Nat→Option AV)→AH→Nat→(Nat→Option AV)→AH→Prop where
  |nil (i:Nat) (F:Nat→Option AV) (h:AH):nF P c n ops LP HP i F h i F h
  | cons (i : Nat) (o : Oper) (F : Nat → Option AV) (h : AH) (v : AV) (b : Bool) (h' : AH) (j : Nat) (F' : Nat → Option AV) (h2 : AH) : ops[i]? = some o → Rb P c n ops LP HP i o F h v b h' →
      nF P c n ops LP HP (i+1) (cP F o.dst v) h' j F' h2→nF P c n ops LP HP i F h j F' h2
theorem nF.trans {n:Nat} {ops:Array Oper} {LP:YX→Prop} {HP:Xw→Prop} {i j k:Nat} {F F' F'':Nat→Option AV} {h h' pS:AH}
  (a:nF P c n ops LP HP i F h j F' h') (b:nF P c n ops LP HP j F' h' k F'' pS):nF P c n ops LP HP i F h k F'' pS:=by
 induction a with
 |nil=>exact b
 |cons i o F h v b' h' j F' h2 ho hs _ ih=>exact .cons i o F h v b' h' k _ _ ho hs (ih b)
structure Tr (P:Program) (c:CV) (n:Nat) (ops:Array Oper) (LP:YX→Prop) (HP:Xw→Prop) (F:Nat→Nat→Option AV) (H:Nat→AH) (V:Nat→AV) (W:Nat→Bool):Prop where
  step:∀i o,ops[i]? =some o→Rb P c n ops LP HP i o (F i) (H i) (V i) (W i) (H (i+1))∧F (i+1)=cP (F i) o.dst (V i)
theorem nF.fns {n:Nat} {ops:Array Oper} {LP:YX→Prop} {HP:Xw→Prop} {i j:Nat} {F0 F1:Nat→Option AV} {h0 h1:AH} (a:nF P c n ops LP HP i F0 h0 j F1 h1) :
  i≤j∧∃(F:Nat→Nat→Option AV) (H:Nat→AH) (V:Nat→AV) (W:Nat→Bool),F i=F0∧H i=h0∧F j=F1∧H j=h1∧
   ∀k o,i≤k→k<j→ops[k]? =some o→Rb P c n ops LP HP k o (F k) (H k) (V k) (W k) (H (k+1))∧F (k+1)=cP (F k) o.dst (V k):=by
 induction a with
 |nil i F h=>exact⟨Nat.le_refl _,λ_=>F,λ_=>h,λ_=>.undef,λ_=>true,rfl,rfl,rfl,rfl,λk o h1 h2=>by omega⟩
 |cons i o F h v b h' j F' h2 ho hs _ ih=>
  obtain⟨sB,G,H,V,W,e1,e2,e3,e4,e5⟩:=ih;refine⟨by omega,λk=>if k=i then F else G k,λk=>if k=i then h else H k,λk=>if k=i then v else V k,λk=>if k=i then b else W k,by simp,by simp,?_,?_,?_⟩
  ·simp only[];rw[iQ omQ];exact e3
  ·simp only[];rw[iQ omQ];exact e4
  ·intro k o' hk hkj dX;simp only[];by_cases rL:k=i
   ·subst rL;rw[ho]at dX;cases dX;rw[iJ rfl,iJ rfl,iJ rfl,iJ rfl,iQ omQ,iQ omQ,e1,e2];exact⟨hs,rfl⟩
   ·rw[iQ rL,iQ rL,iQ rL,iQ rL,iQ omQ,iQ omQ];exact e5 k o' omQ hkj dX
end Go.Ae
namespace Go.Ae
open Go
variable {P:Program} {c:CV} {n:Nat} {ops:Array Oper}
theorem Uq {tm:PT AV} {F:Nat→Option AV} (h:Ql tm F) {dst:Option Tmp} {v:AV} {k:PT AV→R} {r:AV×AH} (e:NE n tm dst v k=some r) :
  ∃tm',k tm'=some r∧Ql tm' (cP F dst v)∧∀d,dst=some d→d<n:=by
 cases dst with
 |none=>exact⟨tm,e,λt u hu=>by simp only[cP];rw[iQ aW];exact h t u hu,λd hd=>by cases hd⟩
 |some d=>
  simp only[NE,yq]at e;refine⟨_,e.2,?_,λd' hd=>by cases hd;exact zE e.1⟩;intro t u hu;rw[PT.bZ]at hu;simp only[cP];by_cases hd:d=t
  ·subst hd;rw[iJ rfl]at hu ⊢;exact hu
  ·rw[iQ hd]at hu;rw[iQ (by simpa using hd)];exact h t u hu
theorem Zz {o:Op} (hl:gB P o=true):MC o=true∨JP P o=true∨kP P o=true:=by unfold gB at hl;rw[Bool.or_eq_true,Bool.or_eq_true]at hl;exact hl
theorem qxD {o:Op} (hl:JP P o=true):∃t x lo hi mx,o=.slice t x lo hi mx:=by
 cases o<;>first |exact⟨_,_,_,_,_,rfl⟩ |cases hl
theorem jJm {o:Op} (hl:gB P o=true):zm P o=false:=by
 rcases Zz hl with h |h |h
 ·obtain⟨t,x,rfl⟩:=GZ h;rfl
 ·obtain⟨t,x,lo,hi,mx,rfl⟩:=qxD h;rfl
 ·exact qG5 h
theorem qw7 {tm:PT AV} {F:Nat→Option AV} (T:Ql tm F) {o:Op} {a:AV} (h:YZ (ev tm) o=some a):YZ (ff F) o=some a:=by
 cases o<;>first |exact IS T _ _ h |cases h
theorem qxc {F:Nat→Option AV} {h h':AH} {o:Op} {v:AV} (e:cO P c o (ff F) h=some (v,h')) (hl:gB P o=true):∃a,YZ (ff F) o=some a:=by
 rcases Zz hl with hl |hl |hl
 ·obtain⟨t,x,rfl⟩:=GZ hl;obtain⟨_,b,off,hx,_⟩:=NU e;exact⟨_,hx⟩
 ·obtain⟨_,x,_,u,_,hu,_⟩:=Z0 hl e;exact⟨u,hu⟩
 ·obtain⟨_,_,_,x,_,u,_,hu,_⟩:=Nw hl e;exact⟨u,hu⟩
theorem OB {F:Nat→Option AV} {dst:Option Tmp} {v:AV} {d:Nat} (h:dst≠some d):cP F dst v d=F d:=by simp only[cP];rw[iQ h]
abbrev LT:YX→Prop:=λ_=>True
abbrev HT:Xw→Prop:=λ_=>True
theorem qvi {g:Option (Nat×Bool)} {r:AV×AH}:∀(l:List Oper) (j:Nat) (tm:PT AV) (F:Nat→Option AV) (h:AH) (k:PT AV→AH→R),
  (∀i o,l[i]? =some o→ops[j+i]? =some o∧o.guard=g)→
  (∀q,g=some q→∃d vg,(∀o:Oper,o.guard=some q→QB ops.toList o=some d)∧writes d l=false∧F d=some vg∧Qa vg q.2=true)→
  Ql tm F→CR P c n l tm h k=some r→∃tm' h' F',k tm' h'=some r∧Ql tm' F'∧nF P c n ops LT HT j F h (j+l.length) F' h':=by
 intro l
 induction l with
 |nil=>intro j tm F h k _ _ T e;exact⟨tm,h,F,e,T,.nil _ _ _⟩
 |cons o l ih=>
  intro j tm F h k hl hg T e;simp only[CR]at e;obtain⟨v,h1,e1,e⟩:=YC e;have e1:=Mt (IS T) e1;obtain⟨cW,e,T1,hd⟩:=Uq T e;obtain⟨ho,fc⟩:=hl 0 o rfl
  obtain⟨tm',h',F',e',T',S⟩:=ih (j+1) cW _ h1 k (λi o' hi=>by have:=hl (i+1) o' hi;rwa [show j+(i+1)=j+1+i by omega]at this) (by
   intro q hq;obtain⟨d,vg,g1,g2,g3,g4⟩:=hg q hq;refine⟨d,vg,g1,?_,?_,g4⟩
   ·simp only[writes,Bool.or_eq_false_iff]at g2;exact g2.2
   ·rw[OB (Gx g2 o (iK ..))];exact g3) T1 e
  refine⟨tm',h',F',e',T',?_⟩;rw[show j+(o::l).length=j+1+l.length by simp;omega];refine .cons j o F h v true h1 _ _ _ ho ⟨λ_=>e1,(λhh=>by cases hh),λ_=>rfl,?_,hd,?_,λ_ _=>trivial⟩ S
  ·intro q hq;rw[fc]at hq;obtain⟨d,vg,g1,g2,g3,g4⟩:=hg q hq;exact⟨d,vg,g1 o (by rw[fc,hq]),g3,g4.symm⟩
  ·intro _ ra;obtain⟨a,ha⟩:=qxc e1 ra;exact⟨a,ha,trivial⟩
theorem qqC {q:Nat×Bool} {d:Nat} {vg:AV} {h:AH} {r:AV×AH}:∀(l:List Oper) (j:Nat) (tm:PT AV) (F:Nat→Option AV) (k:PT AV→R),
  (∀i o,l[i]? =some o→ops[j+i]? =some o∧o.guard=some q)→
  (∀o:Oper,o.guard=some q→QB ops.toList o=some d)→writes d l=false→F d=some vg→Qa vg q.2=false→
  Ql tm F→Mf n l tm k=some r→∃tm' F',k tm'=some r∧Ql tm' F'∧nF P c n ops LT HT j F h (j+l.length) F' h:=by
 intro l
 induction l with
 |nil=>intro j tm F k _ _ _ _ _ T e;exact⟨tm,F,e,T,.nil _ _ _⟩
 |cons o l ih=>
  intro j tm F k hl pw hw hF AL T e;simp only[Mf]at e;obtain⟨cW,e,T1,hd⟩:=Uq T e;obtain⟨ho,fc⟩:=hl 0 o rfl;have bQ:=Gx hw;obtain⟨tm',F',e',T',S⟩:=ih (j+1) cW _ k (λi o' hi=>by have:=hl (i+1) o' hi;rwa [show j+(i+1)=j+1+i by omega]at this) pw
   (by simp only[writes,Bool.or_eq_false_iff]at hw;exact hw.2) (by rw[OB (bQ o (iK ..))];exact hF) AL T1 e
  refine⟨tm',F',e',T',?_⟩;rw[show j+(o::l).length=j+1+l.length by simp;omega];refine .cons j o F h .undef false h _ _ _ ho ⟨(λhh=>by cases hh),λ_=>⟨rfl,rfl⟩,(λhh=>by rw[fc]at hh;cases hh),?_,hd,(λhh=>by cases hh),(λhh=>by cases hh)⟩ S;intro q' hq;rw[fc]at hq;cases hq;exact⟨d,vg,pw o fc,hF,AL.symm⟩
theorem jKr {tm:PT AV} {F:Nat→Option AV} (T:Ql tm F):∀(L:List Nat) (acc:PT AV),Ql acc F→yw tm L=true→Ql (ky L (wh L tm) acc) F:=by
 intro L
 induction L with
 |nil=>intro acc A _;exact A
 |cons t L ih=>
  intro acc A hh;simp only[yw,Bool.and_eq_true]at hh;simp only[wh,ky];refine ih _ ?_ hh.2;have h1:=hh.1;unfold has at h1
  split at h1
  ·rename_i v hv;intro s u hs;rw[PT.bZ]at hs;by_cases e:t=s
   ·subst e;rw[iJ rfl]at hs;cases hs;exact T t v hv
   ·rw[iQ e]at hs;exact A s u hs
  ·cases h1
theorem qYS {tm:PT AV} {F:Nat→Option AV} (T:Ql tm F) (L:List Nat) (hh:yw tm L=true):Ql (ky L (wh L tm) .e) F:=jKr T L .e (λt v hv=>by rw[PT.fK]at hv;cases hv) hh
theorem Mh {v:AV} {w:Bool} {a b:R} {r:AV×AH} (e:Qc v w a b=some r):(Qa v w=true∧a=some r)∨(Qa v w=false∧b=some r):=by
 rw[ML]at e
 split at e
 ·rename_i t;simp only[Qa];cases ht:(t==w)
  ·rw[ht]at e;exact .inr ⟨rfl,e⟩
  ·rw[ht]at e;exact .inl ⟨rfl,e⟩
 ·rename_i hn;refine .inr ⟨?_,e⟩;cases v<;>first |rfl |exact absurd rfl (hn _)
theorem qkt {r:AV×AH}:∀(f:Nat) (l:List Oper) (j:Nat) (Ls:List (List Nat)) (tm:PT AV) (F:Nat→Option AV) (h:AH) (k:PT AV→AH→R),
  (∀i o,l[i]? =some o→ops[j+i]? =some o)→Ql tm F→Kq P c n ops.toList f l Ls tm h k=some r→
  ∃tm' h' F',k tm' h'=some r∧Ql tm' F'∧nF P c n ops LT HT j F h (j+l.length) F' h':=by
 intro f
 induction f with
 |zero=>
  intro l j Ls tm F h k hl T e;cases l with
  |nil=>exact⟨tm,h,F,e,T,.nil _ _ _⟩
  |cons o l=>simp only[Kq,reduceCtorEq]at e
 |succ f ih=>
  intro l j Ls tm F h k hl T e;cases l with
  |nil=>exact⟨tm,h,F,e,T,.nil _ _ _⟩
  |cons o l=>
   cases hg:o.guard with
   |none=>simp only[Kq,hg]at e;obtain⟨v,h1,e1,e⟩:=YC e;have e1:=Mt (IS T) e1;obtain⟨cW,e,T1,hd⟩:=Uq T e;obtain⟨tm',h',F',e',T',S⟩:=ih l (j+1) Ls cW _ h1 k (λi o' hi=>by have:=hl (i+1) o' hi;rwa [show j+(i+1)=j+1+i by omega]at this) T1 e;refine⟨tm',h',F',e',T',?_⟩;rw[show j+(o::l).length=j+1+l.length by simp;omega];refine .cons j o F h v true h1 _ _ _ (hl 0 o rfl) ⟨λ_=>e1,(λhh=>by cases hh),λ_=>rfl,(λq hq=>by rw[hg]at hq;cases hq),hd,?_,λ_ _=>trivial⟩ S;intro _ ra;obtain⟨a,ha⟩:=qxc e1 ra;exact⟨a,ha,trivial⟩
   |some g=>
    simp only[Kq,hg,qC]at e;obtain⟨d,hd,vg,uw,e⟩:=e;cases Ls with
    |nil=>cases e
    |cons L Ap=>
     simp only[Oa]at e;obtain⟨dZ,e⟩:=e;have pw:∀o':Oper,o'.guard=some g→QB ops.toList o'=some d:=by intro o' hX;unfold QB at hd ⊢;rw[hg]at hd;rw[hX];exact hd
     have hF:=T d vg uw;have iH:o::l=(o::(z6 g l).1)++(z6 g l).2:=by rw[List.cons_append,ZM]
     have oa:∀i o',(o::(z6 g l).1)[i]? =some o'→ops[j+i]? =some o'∧o'.guard=some g:=by
      intro i o' hi;refine⟨hl i o' ?_,?_⟩
      ·rw[iH,List.getElem?_append_left (List.getElem?_eq_some_iff.1 hi).1];exact hi
      ·rcases List.mem_cons.1 (List.mem_of_getElem? hi)with rfl |hm
       ·exact hg
       ·exact qWn g l o' hm
     have n9:∀i o',(z6 g l).2[i]? =some o'→ops[j+(o::(z6 g l).1).length+i]? =some o':=by intro i o' hi;rw[Nat.add_assoc];refine hl _ o' ?_;rw[iH,List.getElem?_append_right omQ];rw[show(o::(z6 g l).1).length+i-(o::(z6 g l).1).length=i by omega];exact hi
     have hlen:j+(o::l).length=j+(o::(z6 g l).1).length+(z6 g l).2.length:=by have:=congrArg List.length iH;simp only[List.length_append]at this;omega
     have fin:∀cW h1 F1,Ql cW F1→nF P c n ops LT HT j F h (j+(o::(z6 g l).1).length) F1 h1→
       da (yw cW L) (Kq P c n ops.toList f (z6 g l).2 Ap (ky L (wh L cW) .e) h1 k) none=some r→
       ∃tm' h' F',k tm' h'=some r∧Ql tm' F'∧nF P c n ops LT HT j F h (j+(o::l).length) F' h':=by
      intro cW h1 F1 T1 S1 e1;rw[yq]at e1;obtain⟨tm',h',F',e',T',S⟩:=ih (z6 g l).2 _ Ap _ F1 h1 k n9 (qYS T1 L e1.1) e1.2;refine⟨tm',h',F',e',T',?_⟩;rw[hlen];exact S1.trans S
     simp only[yp]at e;rcases Mh e with⟨hw,e⟩ |⟨hw,e⟩
     ·obtain⟨cW,h1,F1,e1,T1,S1⟩:=qvi (o::(z6 g l).1) j tm F h _ oa (by
       intro q hq;cases hq;exact⟨d,vg,pw,dZ,hF,hw⟩) T e
      exact fin cW h1 F1 T1 S1 e1
     ·obtain⟨cW,F1,e1,T1,S1⟩:=qqC (P:=P) (c:=c) (h:=h) (o::(z6 g l).1) j tm F _ oa pw dZ hF hw T e;exact fin cW h F1 T1 S1 e1
def pz (kn:List (Nat×Bool×Bool)) (F:Nat→Option AV):Prop:=∀x∈kn,∃v,F x.1=some v∧Qa v x.2.1=x.2.2
theorem YO {kn:List (Nat×Bool×Bool)} {F:Nat→Option AV} {d:Nat} {w t:Bool} {v:AV} (K:pz kn F) (hv:F d=some v) (e:YQ kn d w=some t):Qa v w=t:=by
 induction kn with
 |nil=>cases e
 |cons x r ih=>
  obtain⟨u,h1,h2⟩:=K x (iK ..);unfold YQ at e;cases h3:(Nat.beq x.1 d&&(x.2.1==w))
  ·rw[h3,cond_false]at e;cases h4:(Nat.beq x.1 d&&x.2.2)
   ·rw[h4,cond_false]at e;exact ih (λy hy=>K y (iX _ hy)) e
   ·rw[h4,cond_true]at e;cases e;rw[Bool.and_eq_true]at h4;have hd:=Nat.eq_of_beq_eq_true h4.1;rw[hd,hv]at h1;cases h1;rw[h4.2]at h2;rw[h4.1,Bool.true_and]at h3;cases v with
    |bool b=>simp only[Qa,beq_iff_eq]at h2 ⊢;subst h2;exact h3
    |_=>rfl
  ·rw[h3,cond_true]at e;cases e;rw[Bool.and_eq_true]at h3;have hd:=Nat.eq_of_beq_eq_true h3.1;rw[hd,hv]at h1;cases h1;rw[← h2,show x.2.1=w by simpa using h3.2]
theorem pz.drop {kn:List (Nat×Bool×Bool)} {F:Nat→Option AV} {dst:Option Tmp} {v:AV} (K:pz kn F):pz (dU dst kn) (cP F dst v):=by
 induction kn with
 |nil=>intro x hx;cases hx
 |cons x r ih=>
  have ihr:=ih λy hy=>K y (iX _ hy);unfold dU;cases hb:Bo dst x.1
  ·rw[cond_false];intro y hy;rcases List.mem_cons.1 hy with rfl |hy
   ·obtain⟨u,h1,h2⟩:=K y (iK ..);refine⟨u,?_,h2⟩;simp only[cP];rw[iQ ?_]
    ·exact h1
    ·cases dst with
     |none=>simp
     |some t=>simp only[Bo]at hb;intro hh;cases hh;rw[Nat.beq_refl]at hb;cases hb
   ·exact ihr y hy
  ·rw[cond_true];exact ihr
theorem Uh {x:Operand} {F:Nat→Option AV} {b:Bool} {v:AV} (h:YF x=some b) (e:ff F x=some v):v=.bool b:=by
 cases x<;>try (cases h;done)
 rename_i k;simp only[YF]at h;have e:Nz k=some v:=e;rw[e]at h;cases v<;>simp only[Option.some.injEq,reduceCtorEq]at h
 rw[h]
theorem qg9 {kn:List (Nat×Bool×Bool)} {F:Nat→Option AV} {o:Op} {h h':AH} {v:AV} {b:Bool} (K:pz kn F) (e:cO P c o (ff F) h=some (v,h')) (hl:V7 kn o=some b):v=.bool b:=by
 have mv:∀d,Iw kn d=some b→F d=some v→v=.bool b:=λd hb hv=>by
  unfold Iw at hb
  split at hb
  ·rename_i h1;cases hb;have:=YO K hv h1;cases v<;>first |(cases this;done) |skip
   rename_i s;cases s<;>first |rfl |cases this
  ·split at hb
   ·rename_i h1;cases hb;have:=YO K hv h1;cases v<;>first |(cases this;done) |skip
    rename_i s;cases s<;>first |rfl |cases this
   ·cases hb
 cases o<;>try (cases hl;done)
 case move x=>
  cases x<;>try (cases hl;done)
  unfold cO at e;simp only[bC,qC]at e;obtain⟨u,hu,e⟩:=e;simp only[Option.some.injEq,Prod.mk.injEq]at e;exact mv _ hl (by rw[← e.1];exact hu)
 case assign x=>
  cases x<;>try (cases hl;done)
  unfold cO at e;simp only[bC,qC]at e;obtain⟨u,hu,e⟩:=e;simp only[Option.some.injEq,Prod.mk.injEq]at e;exact mv _ hl (by rw[← e.1];exact hu)
 rename_i x y z;cases x<;>try (cases hl;done)
 rename_i d;simp only[V7]at hl;unfold cO at e;simp only[bC,qC]at e;obtain⟨vx,hx,vy,hy,vz,hz,e⟩:=e;have hx:F d=some vx:=hx;cases hk:YQ kn d true with
 |none=>
  rw[hk]at hl;cases nG:YQ kn d false with
  |none=>rw[nG]at hl;cases hl
  |some t=>
   rw[nG]at hl;cases t with
   |true=>cases hl
   |false=>
    have hw:=YO K hx nG;cases vx with
    |bool s=>
     cases s with
     |false=>cases hw
     |true=>have hl:YF y=some b:=hl;have e2:some (vy,h)=some (v,h'):=e;simp only[Option.some.injEq,Prod.mk.injEq]at e2;rw[← e2.1];exact Uh hl hy
    |_=>cases e
 |some t=>
  rw[hk]at hl;have hw:=YO K hx hk;cases vx with
  |bool s=>
   have cd:s=t:=by cases s<;>cases t<;>first |rfl |cases hw
   subst cd;cases s with
   |false=>have hl:YF z=some b:=hl;have e2:some (vz,h)=some (v,h'):=e;simp only[Option.some.injEq,Prod.mk.injEq]at e2;rw[← e2.1];exact Uh hl hz
   |true=>have hl:YF y=some b:=hl;have e2:some (vy,h)=some (v,h'):=e;simp only[Option.some.injEq,Prod.mk.injEq]at e2;rw[← e2.1];exact Uh hl hy
  |_=>cases e
theorem pz.sC {kn:List (Nat×Bool×Bool)} {F:Nat→Option AV} {o:Op} {dst:Option Tmp} {h h':AH} {v:AV} (K:pz kn F) (e:cO P c o (ff F) h=some (v,h')):pz (JV dst o kn) (cP F dst v):=by
 unfold JV;generalize WR=b;cases b
 ·exact K.drop
 ·rw[cond_true];cases dst with
  |none=>exact K.drop
  |some t=>
   cases hl:V7 kn o with
   |none=>exact K.drop
   |some b=>
    have:=qg9 K e hl;subst this;intro x hx;rcases List.mem_cons.1 hx with rfl |hx
    ·exact⟨.bool b,by simp[cP],by cases b<;>rfl⟩
    ·rcases List.mem_cons.1 hx with rfl |hx
     ·exact⟨.bool b,by simp[cP],by cases b<;>rfl⟩
     ·exact K.drop x hx
theorem qVb {kn:List (Nat×Bool×Bool)} {F:Nat→Option AV} {d:Nat} {w:Bool} {v:AV} {a b:R} {r:AV×AH} (K:pz kn F) (hv:F d=some v) (e:WQ (YQ kn d w) v w a b=some r):(Qa v w=true∧a=some r)∨(Qa v w=false∧b=some r):=by
 cases hl:YQ kn d w with
 |none=>rw[hl]at e;exact Mh e
 |some t=>
  rw[hl]at e;have:=YO K hv hl;cases t
  ·exact .inr ⟨this,e⟩
  ·exact .inl ⟨this,e⟩
theorem pz.more {kn:List (Nat×Bool×Bool)} {F:Nat→Option AV} {d:Nat} {w t:Bool} {v:AV} (K:pz kn F) (hv:F d=some v) (hw:Qa v w=t):pz ((d,w,t)::kn) F:=by
 intro x hx;rcases List.mem_cons.1 hx with rfl |hx
 ·exact⟨v,hv,hw⟩
 ·exact K x hx
theorem qxd {r:AV×AH}:∀(l:List Oper) (j:Nat) (kn:List (Nat×Bool×Bool)) (tm:PT AV) (F:Nat→Option AV) (h:AH) (ls:List YX) (hs:List Xw) (k:PT AV→AH→List YX→List Xw→R),
  (∀i o,l[i]? =some o→ops[j+i]? =some o)→Ql tm F→pz kn F→K9 P c n ops.toList l j kn tm h ls hs k=some r→
  ∃tm' h' F' nH eD,k tm' h' nH eD=some r∧Ql tm' F'∧(∀x∈ls,x∈nH)∧(∀x∈hs,x∈eD)∧∀(LP:YX→Prop) (HP:Xw→Prop),(∀x∈nH,LP x)→(∀x∈eD,HP x)→nF P c n ops LP HP j F h (j+l.length) F' h':=by
 intro l
 induction l with
 |nil=>intro j kn tm F h ls hs k _ T _ e;exact⟨tm,h,F,ls,hs,e,T,λ_ h=>h,λ_ h=>h,λ_ _ _ _=>.nil _ _ _⟩
 |cons o l ih=>
  intro j kn tm F h ls hs k hl T KN e;have dW:∀i o',l[i]? =some o'→ops[j+1+i]? =some o':=λi o' hi=>by have:=hl (i+1) o' hi;rwa [show j+(i+1)=j+1+i by omega]at this
  have ho:=hl 0 o rfl;have yes:∀(EI:List (Nat×Bool×Bool)) (IT:pz EI F) (IU:∀g,o.guard=some g→∃d vg,QB ops.toList o=some d∧F d=some vg∧true=Qa vg g.2),
    bC P c o.op (ev tm) h (λv h'=>NE n tm o.dst v λtm'=>
     da (gB P o.op) (ob (YZ (ev tm) o.op) λa=>K9 P c n ops.toList l (j+1) (JV o.dst o.op EI) tm' h' (⟨j,a,kJ P o.op,v⟩::ls) hs k) (da (zm P o.op) (K9 P c n ops.toList l (j+1) (JV o.dst o.op EI) tm' h' ls (⟨j,h,h'⟩::hs) k) (K9 P c n ops.toList l (j+1) (JV o.dst o.op EI) tm' h' ls hs k)))=some r→
    ∃tm' h' F' nH eD,k tm' h' nH eD=some r∧Ql tm' F'∧(∀x∈ls,x∈nH)∧(∀x∈hs,x∈eD)∧∀(LP:YX→Prop) (HP:Xw→Prop),(∀x∈nH,LP x)→(∀x∈eD,HP x)→nF P c n ops LP HP j F h (j+(o::l).length) F' h':=by
   intro EI IT IU e;obtain⟨v,h1,e1,e⟩:=YC e;have e1:=Mt (IS T) e1;obtain⟨cW,e,T1,hd⟩:=Uq T e;rw[show j+(o::l).length=j+1+l.length by simp;omega];cases ra:gB P o.op
   ·rw[ra]at e;simp only[da]at e;cases EJ:zm P o.op
    ·rw[EJ]at e;simp only[]at e;obtain⟨tm',h',F',nH,eD,e',T',s1,s2,S⟩:=ih (j+1) _ cW _ h1 ls hs k dW T1 (IT.sC e1) e;refine⟨tm',h',F',nH,eD,e',T',s1,s2,λLP HP hL hH=>?_⟩;exact .cons j o F h v true h1 _ _ _ ho ⟨λ_=>e1,(λhh=>by cases hh),λ_=>rfl,IU,hd,(λ_ hh=>by rw[ra]at hh;cases hh),(λ_ hh=>by rw[EJ]at hh;cases hh)⟩ (S LP HP hL hH)
    ·rw[EJ]at e;simp only[]at e;obtain⟨tm',h',F',nH,eD,e',T',s1,s2,S⟩:=ih (j+1) _ cW _ h1 ls _ k dW T1 (IT.sC e1) e;refine⟨tm',h',F',nH,eD,e',T',s1,λx hx=>s2 x (iX _ hx),λLP HP hL hH=>?_⟩;exact .cons j o F h v true h1 _ _ _ ho ⟨λ_=>e1,(λhh=>by cases hh),λ_=>rfl,IU,hd,(λ_ hh=>by rw[ra]at hh;cases hh),λ_ _=>hH _ (s2 _ (iK ..))⟩ (S LP HP hL hH)
   ·rw[ra]at e;simp only[da,qC]at e;obtain⟨a,ha,e⟩:=e;obtain⟨tm',h',F',nH,eD,e',T',s1,s2,S⟩:=ih (j+1) _ cW _ h1 _ hs k dW T1 (IT.sC e1) e;have EL:YZ (ff F) o.op=some a:=qw7 T ha;refine⟨tm',h',F',nH,eD,e',T',λx hx=>s1 x (iX _ hx),s2,λLP HP hL hH=>?_⟩;refine .cons j o F h v true h1 _ _ _ ho ⟨λ_=>e1,(λhh=>by cases hh),λ_=>rfl,IU,hd,λ_ _=>⟨a,EL,hL _ (s1 _ (iK ..))⟩,?_⟩ (S LP HP hL hH);intro _ hh;rw[jJm ra]at hh;cases hh
  cases hg:o.guard with
  |none=>simp only[K9,hg]at e;exact yes kn KN (λg hh=>by rw[hg]at hh;cases hh) e
  |some g=>
   simp only[K9,hg,qC]at e;obtain⟨d,hd,vg,uw,e⟩:=e;rcases qVb KN (T d vg uw) e with⟨hw,e⟩ |⟨hw,e⟩
   ·exact yes _ (KN.more (T d vg uw) hw) (λg' hh=>by rw[hg]at hh;cases hh;exact⟨d,vg,hd,T d vg uw,hw.symm⟩) e
   ·obtain⟨cW,e,T1,sD⟩:=Uq T e;obtain⟨tm',h',F',nH,eD,e',T',s1,s2,S⟩:=ih (j+1) _ cW _ h ls hs k dW T1 (KN.more (T d vg uw) hw).drop e;refine⟨tm',h',F',nH,eD,e',T',s1,s2,λLP HP hL hH=>?_⟩;rw[show j+(o::l).length=j+1+l.length by simp;omega];refine .cons j o F h .undef false h _ _ _ ho ⟨(λhh=>by cases hh),λ_=>⟨rfl,rfl⟩,(λhh=>by rw[hg]at hh;cases hh),?_,sD,(λhh=>by cases hh),(λhh=>by cases hh)⟩ (S LP HP hL hH);intro g' hh;rw[hg]at hh;cases hh;exact⟨d,vg,hd,T d vg uw,hw.symm⟩
end Go.Ae
namespace Go.Ae
open Go
variable {P:Program} {c:CV}
theorem qGn (hc:vJ P c) {o:Oper} {r:Operand→Option AV} {h h':AH} {v:AV} {m:Mp} {D:Nat→Prop} {w:World} (hr:∀x v,r x=some v→bD D v) (RR:Rel P m D h w)
  (e:cO P c o.op r h=some (v,h')):∃m' D' w',Ext m D h w m' D' h' w'∧Rel P m' D' h' w'∧bD D' v:=by
 let ρ:Operand→Value:=λx=>match r x with |some v=>cv m v |none=>undef
 have hρ:eX m D ρ r:=λx u hu=>⟨by simp only[ρ,hu],hr x u hu⟩;by_cases hv:∃cl f,o.op=.call cl∧cl.callee=.value f
 ·obtain⟨cl,f,ho,fM⟩:=hv;unfold cO at e;rw[ho]at e;simp only[bC,fM,qC]at e;obtain⟨vf,AB,va,su,e⟩:=e;obtain⟨f1,f2⟩:=hρ _ _ AB;obtain⟨v1,v2⟩:=JA hρ su;rw[JO]at e
  split at e
  ·rename_i q hq;simp only[Option.some.injEq,Prod.mk.injEq]at e;obtain⟨rfl,rfl⟩:=e;have dX:=hc vf va h q hq m D w RR f2 v2;cases vf<;>simp only[IH]at dX
   case fn f' first cap=>obtain⟨e,w',fr,hR,_⟩:=(dX.2 0).2 [] (room_wide _);obtain⟨m',D',_,hx,ia,hd⟩:=hR;exact⟨m',D',w',hx,ia,hd⟩
   case yield l=>obtain⟨f',tmps,assign,body,k1,k2⟩:=dX;obtain⟨e,w',hR,_⟩:=(k2 0).2 default [] (room_wide _);obtain⟨m',D',_,hx,ia,hd⟩:=hR;exact⟨m',D',w',hx,ia,hd⟩
  ·cases e
 ·have Ek:∀cl f,o.op=.call cl→cl.callee≠.value f:=λcl f h1 h2=>hv ⟨cl,f,h1,h2⟩;by_cases hi:∃cl x name,o.op=.call cl∧cl.callee=.invoke x name
  ·obtain⟨cl,x,name,ho,fM⟩:=hi;unfold cO at e;rw[ho]at e;simp only[bC,fM,qC]at e;obtain⟨vx,Bz,va,su,e⟩:=e;obtain⟨f1,f2⟩:=hρ _ _ Bz;obtain⟨v1,v2⟩:=JA hρ su;unfold vV at e
   split at e
   ·rename_i t y;cases hf:VB (Pg P name) t with
    |none=>rw[hf]at e;cases e
    |some f=>
     rw[hf]at e;simp only[JO]at e
     split at e
     ·rename_i q hq;simp only[Option.some.injEq,Prod.mk.injEq]at e;obtain⟨rfl,rfl⟩:=e;have dX:=hc (.fn f [] []) (y::va) h q hq m D w RR ⟨trivial,trivial⟩ ⟨f2,v2⟩;obtain⟨e,w',fr,hR,_⟩:=(dX.2 0).2 [] (room_wide _);obtain⟨m',D',_,hx,ia,hd⟩:=hR;exact⟨m',D',w',hx,ia,hd⟩
     ·cases e
   ·cases e
  have lh:∀cl x n,o.op=.call cl→cl.callee≠.invoke x n:=λcl x n h1 h2=>hi ⟨cl,x,n,h1,h2⟩;obtain⟨m',D',w',_,ex,re,hd⟩:=jX3 (o:=o) Ek lh hρ RR e;exact⟨m',D',w',ex,re,hd⟩
def Dg (D:Nat→Prop) (H:Nat→AH) (i:Nat):Nat→Prop:=λb=>D b∨((H 0).nx≤b∧b<(H i).nx)
theorem Ext.sE {m m':Mp} {D D':Nat→Prop} {h h':AH} {w w':World} (e:Ext m D h w m' D' h' w'):D'=λb=>D b∨(h.nx≤b∧b<h'.nx):=funext λb=>propext (e.dm b)
structure Gh (P:Program) (D:Nat→Prop) (H:Nat→AH) (F:Nat→Nat→Option AV) (i:Nat):Prop where
  nx:(H 0).nx≤(H i).nx
  un:∀b,b<(H 0).nx→¬D b→(H i).get b=(H 0).get b
  bG:∀b,Dg D H i b→∃x,(H i).get b=some x∧cV (Dg D H i) x
  slot:∀t v,F i t=some v→bD (Dg D H i) v
  ni:∀b t,Dg D H i b→(H i).get b=some (.dv t)→D b∧(H 0).get b=some (.dv t)
theorem jXE {D:Nat→Prop} {F:Nat→Option AV} (hF:∀t v,F t=some v→bD D v):∀x v,ff F x=some v→bD D v:=by
 intro x v e;cases x with
 |tmp t=>exact hF t v e
 |const k=>exact(XJ (m:=λ_=>(0,0)) (D:=D) e).2
 |global g=>cases e
 |func f=>cases e;exact⟨trivial,trivial⟩
theorem qXb (hc:vJ P c) {n:Nat} {ops:Array Oper} {LP:YX→Prop} {HP:Xw→Prop} {F:Nat→Nat→Option AV} {H:Nat→AH} {V:Nat→AV} {W:Nat→Bool}
  (T:Tr P c n ops LP HP F H V W) {m:Mp} {D:Nat→Prop} {w:World} (RR:Rel P m D (H 0) w) (h0:∀t v,F 0 t=some v→bD D v) :
  ∀i,i≤ops.size→(∃m' w',Ext m D (H 0) w m' (Dg D H i) (H i) w'∧Rel P m' (Dg D H i) (H i) w'∧∀t v,F i t=some v→bD (Dg D H i) v)∧(∀j,j<i→(H j).nx≤(H (j+1)).nx∧bD (Dg D H (j+1)) (V j)):=by
 intro i
 induction i with
 |zero=>intro _;have hD:Dg D H 0=D:=funext λb=>propext ⟨λh=>h.elim id λh=>by omega,.inl⟩;rw[hD];exact⟨⟨m,w,Ext.refl ..,RR,h0⟩,λj hj=>by omega⟩
 |succ i ih=>
  intro hi;obtain⟨⟨m1,w1,X1,R1,s1⟩,hb⟩:=ih omQ;obtain⟨o,ho⟩:∃o,ops[i]? =some o:=⟨_,Array.getElem?_eq_getElem omQ⟩;obtain⟨st,hF⟩:=T.step i o ho;have key:∃m' w',Ext m1 (Dg D H i) (H i) w1 m' (Dg D H (i+1)) (H (i+1)) w'∧Rel P m' (Dg D H (i+1)) (H (i+1)) w'∧bD (Dg D H (i+1)) (V i):=by
   cases hw:W i with
   |true=>
    obtain⟨m',D',w',X,R',hv⟩:=qGn hc (o:=o) (jXE s1) R1 (st.yes hw);have hD:D'=Dg D H (i+1):=by
     rw[X.sE];have:=X1.nx;have:=X.nx
     funext b
     simp only[Dg,eq_iff_iff];constructor
     ·rintro((h |h) |h)
      ·exact .inl h
      ·exact .inr ⟨h.1,by omega⟩
      ·exact .inr ⟨by omega,h.2⟩
     ·rintro(h |h)
      ·exact .inl (.inl h)
      ·by_cases hx:b<(H i).nx
       ·exact .inl (.inr ⟨h.1,hx⟩)
       ·exact .inr ⟨by omega,h.2⟩
    subst hD;exact⟨m',w',X,R',hv⟩
   |false=>
    obtain⟨e1,e2⟩:=st.no hw;have hD:Dg D H (i+1)=Dg D H i:=by unfold Dg;rw[e2]
    rw[hD,e2,e1];exact⟨m1,w1,Ext.refl ..,R1,trivial⟩
  obtain⟨m2,w2,X2,R2,hv⟩:=key;refine⟨⟨m2,w2,X1.trans X2,R2,?_⟩,?_⟩
  ·intro t v ht;rw[hF]at ht;unfold cP at ht
   split at ht
   ·cases ht;exact hv
   ·exact X2.bD (s1 t v ht)
  ·intro j hj;by_cases Rc:j=i
   ·subst Rc;exact⟨X2.nx,hv⟩
   ·exact hb j omQ
theorem qxO (hc:vJ P c) {n:Nat} {ops:Array Oper} {LP:YX→Prop} {HP:Xw→Prop} {F:Nat→Nat→Option AV} {H:Nat→AH} {V:Nat→AV} {W:Nat→Bool}
  (T:Tr P c n ops LP HP F H V W) {m:Mp} {D:Nat→Prop} {w:World} (RR:Rel P m D (H 0) w) (h0:∀t v,F 0 t=some v→bD D v) {i:Nat} (hi:i≤ops.size):Gh P D H F i:=by
 obtain⟨⟨m',w',X,R',s⟩,_⟩:=qXb hc T RR h0 i hi;refine⟨X.nx,λb hb hn=>(X.un b hb hn).1,?_,s,X.ni⟩;intro b hb;obtain⟨x,hx,_,hd⟩:=R'.bG b hb;exact⟨x,hx,hd⟩
end Go.Ae
