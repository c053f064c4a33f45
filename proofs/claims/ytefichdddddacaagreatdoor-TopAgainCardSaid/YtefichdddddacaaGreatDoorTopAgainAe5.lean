/- The abstract executor of the program's form in Lean, shown sound: regions that draw their order: what an operation looks at; the walk in the text's order. -/
import Derived.Test.YtefichdddddacaaGreatDoorTopAgainAe4
namespace Go.Ae
open Go
variable {P:Program} {c:CV} {r r':Operand→Option AV} {h h':AH} {v:AV}
theorem wY {l:List Operand} (hr:∀x∈l,r x=r' x):gH r l=gH r' l:=by
 induction l with
 |nil=>rfl
 |cons a l ih=>simp only[gH,hr a (iK ..),ih λx hx=>hr x (iX _ hx)]
theorem Xn {pl:Nat→Option (Nat×Nat)} {l:List (Nat×Operand)} (hr:∀x∈l.map (·.2),r x=r' x):xS pl r l=xS pl r' l:=by
 induction l with
 |nil=>rfl
 |cons a l ih=>obtain⟨i,x⟩:=a;simp only[xS,hr x aN,ih λx hx=>hr x (by simp at hx ⊢;exact .inr hx)]
theorem UR {x:Option Operand} (hr:∀y∈x,r y=r' y):YK r x=YK r' x:=by
 cases x with
 |none=>rfl
 |some x=>simp only[YK,hr x rfl]
theorem qX8 {o:Op} {k:AV→AH→R} (hr:∀x∈o.operands,r x=r' x):bh P c o r h k=bh P c o r' h k:=by
 cases o with
 |call cl=>
  have ha:∀x∈cl.args.toList,r x=r' x:=λx hx=>hr x (by simp only[Op.operands,Call.operands];simp at hx ⊢;exact .inr hx);cases hc:cl.callee with
  |value f=>have hf:r f=r' f:=hr f (by simp[Op.operands,Call.operands,hc]);simp only[bh,hc,hf,wY ha]
  |invoke x name=>have hx:r x=r' x:=hr x (by simp[Op.operands,Call.operands,hc]);simp only[bh,hc,hx,wY ha]
  |builtin b=>
   cases b<;>simp only[bh,hc]
   case len=>
    generalize cl.argTypes.toList=ts at*;revert ha;generalize cl.args.toList=xs;intro ha;rcases xs with _ |⟨x,xs⟩<;>rcases ts with _ |⟨t,ts⟩<;>simp only[]
    rw[ha x (iK ..)]
   case min=>rw[wY ha]
   case max=>rw[wY ha]
   case append=>
    generalize cl.argTypes.toList=ts at*;revert ha;generalize cl.args.toList=xs;intro ha;rcases xs with _ |⟨s,_ |⟨x,_ |⟨y,xs⟩⟩⟩<;>rcases ts with _ |⟨t,_ |⟨u,ts⟩⟩<;>simp only[]
    rw[ha s aN,ha x aN]
 |build t ps=> 
  have hp:∀pl,xS pl r ps.toList=xS pl r' ps.toList:=λpl=>Xn λx hx=>hr x (by simpa[Op.operands]using hx);simp only[bh,hp]
 |buildSlice t n ps=> 
  have hp:∀pl,xS pl r ps.toList=xS pl r' ps.toList:=λpl=>Xn λx hx=>hr x (by simpa[Op.operands]using hx);simp only[bh,hp]
 |makeFunc fn a cp=>have h1:gH r a.toList=gH r' a.toList:=wY λx hx=>hr x (by simp[Op.operands]at hx ⊢;exact .inl hx);have h2:gH r cp.toList=gH r' cp.toList:=wY λx hx=>hr x (by simp[Op.operands]at hx ⊢;exact .inr hx);simp only[bh,h1,h2]
 |slice t x lo hi mx=>have h1:=hr x (by simp[Op.operands]);have h2:YK r lo=YK r' lo:=UR λy hy=>hr y (by simp[Op.operands];right;left;simpa using hy);have h3:YK r hi=YK r' hi:=UR λy hy=>hr y (by simp[Op.operands];right;right;left;simpa using hy);simp only[bh,h1,h2,h3]
 |_=>
  simp only[bh]
  try simp only[Op.operands,List.mem_toArray,List.mem_cons,List.not_mem_nil,or_false,forall_eq_or_imp,forall_eq]at hr
  try simp only[hr]
end Go.Ae
namespace Go.Ae
open Go
variable {P:Program} {c:CV} {r:Operand→Option AV} {h h':AH} {v:AV} {o:Op}
theorem qxM (hp:iz P o=.pure) (hc:QJ P o=false) (hv:wW P o=false) (g:AH) (k:AV→AH→R):bh P c o r g k=bh P c o r h (λv _=>k v g):=by
 cases o with
 |convert s d x=>
  simp only[iz]at hp;simp only[wW]at hv;simp only[bh,Xs];refine qS λv=>?_;cases hs:P.underlying s with
  |none=>rfl
  |some ds=>
   cases hd:P.underlying d with
   |none=>rfl
   |some dd=>
    rw[hs,hd]at hp hv;cases dd with
    |int k=>cases ds<;>rfl
    |string=>cases ds<;>first |rfl |(cases hv;done) |(simp only[reduceCtorEq]at hp;done)
    |slice e=>cases ds<;>first |rfl |(simp only[reduceCtorEq]at hp;done)
    |_=>first |(simp only[reduceCtorEq]at hp;done) |rfl
 |slice t x lo hi mx=>
  simp only[QJ]at hc;cases mx with
  |some _=>rfl
  |none=>
   simp only[bh];refine qS λ_=>qS λ_=>qS λ_=>?_;cases hu:P.underlying t with
   |none=>rfl
   |some d=>cases d<;>first |rfl |(rw[hu]at hc;cases hc)
 |call cl=>
  simp only[iz]at hp;cases dQ:cl.callee with
  |value f=>rw[dQ]at hp;cases hp
  |invoke a b=>rw[dQ]at hp;cases hp
  |builtin b=> 
   rw[dQ]at hp;cases b
   all_goals first |(simp only[bh,dQ];done) |cases hp
 |_=>first |rfl |(simp only[iz,reduceCtorEq]at hp;done) |skip
theorem Zs (hp:iz P o=.pure) (hc:QJ P o=false) (hv:wW P o=false) (e:ch P c o r h=some (v,h')):h'=h∧∀g,ch P c o r g=some (v,g):=by
 have key:∀g,ch P c o r g=some (v,g):=by intro g;unfold ch;rw[qxM hp hc hv (h:=h),I9,show ch P c o r h=some (v,h')from e];rfl
 refine⟨?_,key⟩;have:=key h;rw[e]at this;cases this;rfl
def uZ (mk:Nat→AV):Prop:=mk=(λb=>.ptr b 0)∨∃l k o,mk=λb=>.slice b 0 l k o
theorem Vl (hp:iz P o=.fresh) (e:ch P c o r h=some (v,h')):∃mk x,uZ mk∧v=mk h.nx∧h'=h.new x∧∀g,ch P c o r g=some (mk g.nx,g.new x):=by
 have box:∀(t:TypeId) (u:AV),gc h t u (λv h'=>some (v,h'))=some (v,h')→∃mk x,uZ mk∧v=mk h.nx∧h'=h.new x∧∀g,gc g t u (λv h'=>some (v,h'))=some (mk g.nx,g.new x):=by intro t u e;unfold gc at e;simp only[jZ]at e;obtain⟨h1,e⟩:=e;cases e;exact⟨λb=>.ptr b 0,_,.inl rfl,rfl,rfl,λg=>by unfold gc;rw[h1];rfl⟩
 cases o with
 |alloc t=>unfold ch at e ⊢;simp only[bh,qC]at e ⊢;obtain⟨z,hz,e⟩:=e;obtain⟨mk,x,h1,h2,h3,h4⟩:=box _ _ e;exact⟨mk,x,h1,h2,h3,λg=>⟨z,hz,h4 g⟩⟩
 |box t y=>unfold ch at e ⊢;simp only[bh,qC]at e ⊢;obtain⟨z,hz,e⟩:=e;obtain⟨mk,x,h1,h2,h3,h4⟩:=box _ _ e;exact⟨mk,x,h1,h2,h3,λg=>⟨z,hz,h4 g⟩⟩
 |buildSlice t n ps=>
  unfold ch at e ⊢;simp only[bh,qC]at e ⊢;obtain⟨d,hd,e⟩:=e;cases d<;>simp only[reduceCtorEq]at e
  rename_i el;simp only[qC,xv]at e;obtain⟨z,hz,hle,vs,oE,e⟩:=e;unfold yZ at e;simp only[qC,jZ]at e;obtain⟨cs,ff,h1,e⟩:=e;cases e;refine⟨λb=>.slice b 0 n n false,_,.inr ⟨n,n,false,rfl⟩,rfl,rfl,λg=>⟨_,hd,?_⟩⟩;simp only[qC,xv];refine⟨z,hz,hle,vs,oE,?_⟩;unfold yZ;simp only[qC,jZ];exact⟨cs,ff,h1,rfl⟩
 |makeSlice t a b=>
  unfold ch at e ⊢;simp only[bh,qC]at e ⊢;obtain⟨d,hd,e⟩:=e;cases d<;>simp only[reduceCtorEq]at e
  rename_i el;simp only[qC]at e;obtain⟨z,hz,va,rC,vb,hvb,e⟩:=e;unfold Qv at e
  split at e
  rotate_left
  ·cases e
  rename_i k1 ln k2 cp;simp only[jZ]at e;obtain⟨h1,e⟩:=e;cases e;refine⟨λb=>.slice b 0 ln cp false,_,.inr ⟨ln,cp,false,rfl⟩,rfl,rfl,λg=>⟨_,hd,?_⟩⟩;simp only[qC];refine⟨z,hz,_,rC,_,hvb,?_⟩;unfold Qv;simp only[jZ];exact⟨h1,by trivial⟩
 |convert s d x=>
  simp only[iz]at hp
  split at hp
  ·cases hp
  ·split at hp<;>cases hp
  ·rename_i el hd
   split at hp
   rotate_left
   ·cases hp
   rename_i hs;unfold ch at e ⊢;simp only[bh,Xs,hs,hd,qC]at e;obtain⟨u,hu,e⟩:=e;cases e
  ·cases hp
 |call cl=>
  simp only[iz]at hp;cases dQ:cl.callee with
  |value f=>rw[dQ]at hp;cases hp
  |invoke a b=>rw[dQ]at hp;cases hp
  |builtin b=>
   rw[dQ]at hp;cases b<;>first |(cases hp;done) |skip
   simp only[]at hp
   split at hp
   ·split at hp<;>cases hp
   ·cases hp
 |_=>simp only[iz,reduceCtorEq]at hp
theorem Br {a b:Int} (h:lC a b=true):a=b:=by rw[Ua]at h;simpa using h
theorem Bs {a b:List UInt8} (h:ft a b=true):a=b:=by rw[fJ]at h;simpa using h
mutual
theorem GC:∀{a b:AV},yu a b=true→a=b
 | .bool a,.bool b,h=>by simp only[yu,beq_iff_eq]at h;rw[h]
 | .int k a,.int k' b,h=>by simp only[yu,Bool.and_eq_true,beq_iff_eq]at h;rw[h.1,Br h.2]
 | .str a,.str b,h=>by simp only[yu]at h;rw[Bs h]
 | .ptr b o,.ptr b' o',h=>by simp only[yu,Bool.and_eq_true]at h;rw[jf h.1,jf h.2]
 | .aO,.aO,_=>rfl
 | .slice b o l c p,.slice b' o' l' c' p',h=>by simp only[yu,Bool.and_eq_true,beq_iff_eq]at h;rw[jf h.1,jf h.2.1,jf h.2.2.1,jf h.2.2.2.1,h.2.2.2.2]
 | .ak,.ak,_=>rfl
 | .fn f a c,.fn f' a' c',h=>by simp only[yu,Bool.and_eq_true]at h;rw[jf h.1,YM h.2.1,YM h.2.2]
 | .yield l,.yield l',h=>by simp only[yu]at h;rw[jf h]
 | .dC,.dC,_=>rfl
 | .iface t v,.iface t' v',h=>by simp only[yu,Bool.and_eq_true]at h;rw[jf h.1,GC h.2]
 | .cH,.cH,_=>rfl
 | .agg l,.agg l',h=>by simp only[yu]at h;rw[YM h]
 | .bM l,.bM l',h=>by simp only[yu]at h;rw[YM h]
 | .bT a,.bT a',h=>by simp only[yu,decide_eq_true_eq]at h;rw[h]
 | .tail b o o' i,.tail b' p p' j,h=>by simp only[yu,Bool.and_eq_true]at h;rw[jf h.1,jf h.2.1,jf h.2.2.1,jf h.2.2.2]
 | .dN b,.dN b',h=>by simp only[yu]at h;rw[jf h]
theorem YM:∀{a b:List AV},Yn a b=true→a=b
 |[],[],_=>rfl
 |a::r,b::s,h=>by simp only[Yn,Bool.and_eq_true]at h;rw[GC h.1,YM h.2]
end
end Go.Ae
namespace Go.Ae
open Go
variable {P:Program} {c:CV} {r:Operand→Option AV} {h h':AH} {v:AV} {o:Op}
theorem U4 {t:TypeId} {x:Operand} (e:ch P c (.load t x) r h=some (v,h')):h'=h∧∃b off,r x=some (.ptr b off)∧
  (∀g,g.get b=h.get b→ch P c (.load t x) r g=some (v,g))∧(∀g,zp (.ptr b off) (gk P (.load t x)) v g=true→ch P c (.load t x) r g=some (v,g)):=by
 unfold ch at e;simp only[bh,qC]at e;obtain⟨a,ha,i,hi,e⟩:=e;have hn:gk P (.load t x)=i:=by simp only[gk,hi]
 rw[hn];cases i with
 |none=>
  simp only[y7]at e
  split at e
  rotate_left
  ·cases e
  rename_i b off;have hz:∃z,(∀g,g.get b=h.get b→jj g (.ptr b off) (λz=>some (z,g))=some (z,g))∧(v,h')=(z,h):=by
   split at e
   ·rename_i cs t' op hg;simp only[qC]at e;obtain⟨z,hz,e⟩:=e;cases e;exact⟨_,λg tK=>by simp only[y7,tK,hg,hz],rfl⟩
   ·rename_i ti hg;simp only[qC]at e;obtain⟨z,hz,e⟩:=e;cases e;exact⟨_,λg tK=>by simp only[y7,tK,hg,hz],rfl⟩
   ·cases e
  obtain⟨z,hz,e⟩:=hz;cases e;refine⟨rfl,b,off,ha,?_,?_⟩
  ·intro g tK;unfold ch;simp only[bh,qC];exact⟨_,ha,_,hi,hz g tK⟩
  ·intro g hl;unfold ch;simp only[bh,qC];refine⟨_,ha,_,hi,?_⟩;simp only[zp]at hl
   split at hl
   ·rename_i Eb t2 op2 tL
    split at hl
    ·rename_i y hy;have:=GC hl;subst this;simp only[y7,tL,qC];exact⟨_,hy,rfl⟩
    ·cases hl
   ·rename_i ti tL
    split at hl
    ·rename_i y hy;have:=GC hl;subst this;simp only[y7,tL,qC];exact⟨_,hy,rfl⟩
    ·cases hl
   ·cases hl
 |some n=>
  simp only[wz]at e
  split at e
  rotate_left
  ·cases e
  rename_i b off;simp only[qC]at e;obtain⟨z,hz,e⟩:=e;cases e;refine⟨rfl,b,off,ha,?_,?_⟩
  ·intro g tK;unfold ch;simp only[bh,qC];refine⟨_,ha,_,hi,?_⟩;simp only[wz,qC];refine⟨z,?_,rfl⟩;unfold yK at hz ⊢;rw[tK];exact hz
  ·intro g hl;unfold ch;simp only[bh,qC];refine⟨_,ha,_,hi,?_⟩;simp only[wz,qC];simp only[zp]at hl
   split at hl
   ·rename_i Eb t2 op2 tL
    split at hl
    ·rename_i y hy;have:=GC hl;cases this;refine⟨_,?_,rfl⟩;unfold yK;rw[tL];exact hy
    ·cases hl
   ·rename_i ti tL
    split at hl
    ·rename_i y hy;have:=GC hl;cases this;refine⟨_,?_,rfl⟩;unfold yK;rw[tL];exact hy
    ·cases hl
   ·cases hl
theorem XA (hl:Ku o=true):∃t x,o=.load t x:=by
 cases o<;>first |exact⟨_,_,rfl⟩ |cases hl
theorem NK (a b:Nat) (h:b+1≤65536):(a*65536+b)/65536=a∧(a*65536+b)%65536=b:=by omega
theorem M6 (hc:QJ P o=true) (e:ch P c o r h=some (v,h')):h'=h∧∃x∈o.operands,∃u,r x=some u∧JF r o=some u∧
  (∀g,(∀b off l i,u=.slice b off l i true→g.get b=h.get b)→ch P c o r g=some (v,g))∧(∀g,zp u (gk P o) v g=true→ch P c o r g=some (v,g)):=by
 cases o<;>try (cases hc;done)
 rename_i t x lo hi mx;unfold ch at e;cases mx with
 |some _=>cases e
 |none=>
  simp only[bh,qC]at e;obtain⟨u,hu,l,hl,q,hq,d,hd,e⟩:=e;cases d<;>first |(simp only[reduceCtorEq]at e;done) |skip
  case string=>simp only[QJ,hd]at hc;cases hc
  case array n el=>simp only[QJ,hd]at hc;cases hc
  case slice el=>
   simp only[qC]at e;obtain⟨sz,bx,e⟩:=e;have key:∀g:AH,(∀b off l i,u=.slice b off l i true→g.get b=h.get b)→yX g el sz u l q (λz=>some (z,g))=cn (yX h el sz u l q (λz=>some (z,h))) (λv _=>some (v,g)):=by
    intro g hg;rw[N9];unfold yX
    split
    ·rfl
    ·rename_i b off len i0;have:yE g el b off sz i0 len=yE h el b off sz i0 len:=by unfold yE;rw[hg b off len i0 rfl]
     rw[this]
    ·rfl
    ·rfl
    ·rfl
   have Bt:∀g:AH,(∀b off l i,u=.slice b off l i true→g.get b=h.get b)→ch P c (.slice t x lo hi none) r g=some (v,g):=by intro g hg;unfold ch;simp only[bh,qC];refine⟨u,hu,l,hl,q,hq,_,hd,?_⟩;simp only[qC];refine⟨sz,bx,?_⟩;rw[key g hg,e];rfl
   have EX:∀g:AH,zp u (gk P (.slice t x lo hi none)) v g=true→ch P c (.slice t x lo hi none) r g=some (v,g):=by
    intro g hg;unfold ch;simp only[bh,qC];refine⟨u,hu,l,hl,q,hq,_,hd,?_⟩;simp only[qC];refine⟨sz,bx,?_⟩;have e0:yX g el sz u l q (λz=>some (z,g))=cn (yX h el sz u l q (λz=>some (z,h))) (λv _=>some (v,g)):=by
     rw[N9];unfold yX at e ⊢
     split at e
     ·rfl
     ·rename_i b off len i0;simp only[gk,hd,bx]at hg;cases hb:Nat.ble (sz+1) 65536
      ·rw[hb]at hg;cases hg
      ·rw[hb]at hg;simp only[cond_true,zp]at hg;have h1:=vv hb;rw[(NK el sz h1).1,(NK el sz h1).2]at hg;cases hf:yE h el b off sz i0 len
       ·rw[hf]at e;cases e
       ·simp only[hg]
     ·rfl
     ·rfl
     ·rfl
    rw[e0,e];rfl
   refine⟨?_,x,by simp[Op.operands],u,hu,hu,Bt,EX⟩;have:=Bt h (λ_ _ _ _ _=>rfl);have e2:ch P c (.slice t x lo hi none) r h=some (v,h'):=by unfold ch;simp only[bh,qC];refine⟨u,hu,l,hl,q,hq,_,hd,?_⟩;simp only[qC];exact⟨sz,bx,e⟩
   rw[e2]at this;cases this;rfl
theorem qX4 {s:List UInt8} (hc:QJ P o=true) (e:ch P c o r h=some (.str s,h')):False:=by
 cases o<;>try (cases hc;done)
 rename_i t x lo hi mx;unfold ch at e;cases mx with
 |some _=>cases e
 |none=>
  simp only[bh,qC]at e;obtain⟨u,hu,l,hl,q,hq,d,hd,e⟩:=e;cases d<;>first |(simp only[reduceCtorEq]at e;done) |skip
  case string=>simp only[QJ,hd]at hc;cases hc
  case array n el=>simp only[QJ,hd]at hc;cases hc
  case slice el=>
   simp only[qC]at e;obtain⟨sz,bx,e⟩:=e;unfold yX at e
   split at e
   ·simp only[qC]at e;obtain⟨_,_,_,_,e⟩:=e;cases e
   ·simp only[jZ,qC]at e;obtain⟨_,_,_,k,_,e⟩:=e;cases h1:Nat.beq k 0<;>rw[h1]at e
    ·simp only[cond_false]at e;rename_i len _ _ _ _ _;cases h2:Nat.ble (k+1) len<;>rw[h2]at e<;>cases e
    ·cases e
   ·simp only[qC]at e;obtain⟨_,_,_,_,e⟩:=e;cases e
   ·simp only[qC]at e;obtain⟨_,_,_,_,e⟩:=e;cases e
   ·cases e
theorem Ud (hc:wW P o=true) (e:ch P c o r h=some (v,h')):h'=h∧gk P o=none∧(∃s,v=.str s)∧∃x∈o.operands,∃u,r x=some u∧JF r o=some u∧
  ∀g,(∀b off l i p,u=.slice b off l i p→g.get b=h.get b)→ch P c o r g=some (v,g):=by
 cases o<;>try (cases hc;done)
 rename_i s d x;simp only[wW]at hc
 split at hc
 rotate_left
 ·cases hc
 rename_i hd
 split at hc
 rotate_left
 ·cases hc
 rename_i el hs;unfold ch at e;simp only[bh,Xs,hs,hd,qC,Option.some.injEq,exists_eq_left']at e;obtain⟨u,hu,de,Dl,e⟩:=e;cases de<;>first |(cases e;done) |skip
 rename_i k;cases k<;>first |(cases e;done) |skip
 replace e:Xd h u (λz=>some (z,h))=some (v,h'):=e
 have key:∀g,(∀b off l i p,u=.slice b off l i p→g.get b=h.get b)→(∃s,v=.str s)∧h'=h∧ch P c (.convert s d x) r g=some (v,g):=by
  intro g hg;have go:∀z,Xd g u (λy=>some (y,g))=some (z,g)→ch P c (.convert s d x) r g=some (z,g):=λz hz=>by
   unfold ch;simp only[bh,Xs,hs,hd,qC,Option.some.injEq,exists_eq_left'];exact⟨u,hu,_,Dl,hz⟩
  unfold Xd at e
  split at e
  ·cases e;exact⟨⟨_,rfl⟩,rfl,go _ rfl⟩
  ·rename_i b off len i p;simp only[qC]at e;obtain⟨cs,ff,t,ht,e⟩:=e;cases e;refine⟨⟨_,rfl⟩,rfl,go _ ?_⟩;unfold Xd;simp only[qC];refine⟨cs,?_,t,ht,rfl⟩;unfold yK at ff ⊢;rw[hg _ _ _ _ _ rfl];exact ff
  ·cases e
 obtain⟨k1,k2,_⟩:=key h (λ_ _ _ _ _ _=>rfl);exact⟨k2,rfl,k1,x,by simp[Op.operands],u,hu,hu,λg hg=>(key g hg).2.2⟩
theorem qkd (hl:wW P o=true):∃s d x,o=.convert s d x:=by
 cases o<;>first |exact⟨_,_,_,rfl⟩ |cases hl
theorem Lk (hl:wW P o=true):zz P o=false:=by
 obtain⟨s,d,x,rfl⟩:=qkd hl;simp only[wW]at hl
 split at hl
 ·rename_i hd
  split at hl
  ·rename_i el hs;simp only[zz,iz,hd,hs]
  ·cases hl
 ·cases hl
theorem qzc (l:List Nat) (t:Nat):(AL l).testBit t=l.any λa=>a.testBit t:=by
 induction l with
 |nil=>simp[AL]
 |cons a l ih=>simp[AL,ih]
theorem M8 (t s:Nat):(bit t).testBit s=decide (t=s):=by unfold bit;rw[Nat.testBit_two_pow]
theorem Xm {all:List Oper} {o:Oper} {t:Nat} (h:.tmp t∈o.op.operands):(looks all o).testBit t=true:=by unfold looks;rw[Nat.testBit_or,qzc];simp only[Bool.or_eq_true,List.any_eq_true,List.mem_map];exact .inl ⟨_,⟨.tmp t,by simpa using h,rfl⟩,by simp[IE,M8]⟩
theorem Ox {all:List Oper} {o:Oper} {g:Nat×Bool} {d:Nat} (hg:o.guard=some g) (hd:wn all o=some d):(looks all o).testBit d=true:=by unfold looks;rw[Nat.testBit_or,hg];simp[hd,M8]
theorem JG (o:Oper) (t:Nat):(Jq o).testBit t=decide (o.dst=some t):=by
 unfold Jq;cases o.dst with
 |none=>simp
 |some d=>simp[M8]
theorem Ki {a b:Nat} (h:Nat.beq (a&&&b) 0=true) (t:Nat) (ha:a.testBit t=true):b.testBit t=false:=by have h:=jf h;have:=congrArg (λx=>x.testBit t) h;simp only[Nat.testBit_and,Nat.zero_testBit,ha,Bool.true_and]at this;exact this
end Go.Ae
namespace Go.Ae
open Go
variable {P:Program}
def Kq (e:Edge):Bool:=Region.binds .any e
theorem JI {j:Nat} {l:List Edge} (h:ky j l=true):∀e∈l,Kq e=true→e.on<j:=by
 induction l with
 |nil=>intro e he;cases he
 |cons a l ih=>
  simp only[ky,Bool.and_eq_true]at h;intro e he hb;rcases List.mem_cons.1 he with rfl |he
  ·have h1:=h.1;unfold Kq at hb;rw[hb]at h1;exact jh h1
  ·exact ih h.2 e he hb
def Kv (mk wj lj:Nat) (e:AM):Prop:=mk.testBit e.i=true∨(Nat.beq (e.w&&&(lj|||wj)) 0=true∧Nat.beq (wj&&&e.l) 0=true)
theorem ZU {mk wj lj:Nat} {l:List AM} (h:NP mk wj lj l=true):∀e∈l,Kv mk wj lj e:=by
 induction l with
 |nil=>intro e he;cases he
 |cons a l ih=>
  simp only[NP,Bool.and_eq_true,Bool.or_eq_true]at h;intro e he;rcases List.mem_cons.1 he with rfl |he
  ·exact h.1
  ·exact ih h.2 e he
theorem qVU {t:PT Nat} {all:List Oper}:∀(l:List Oper) (j:Nat) (es:List AM),rj t all l j es=true→∀k o,l[k]? =some o→ky (j+k) o.after.toList=true∧
  (∀e∈es,Kv (zL t (j+k)) (Jq o) (looks all o) e)∧∀i oi,i<k→l[i]? =some oi→Kv (zL t (j+k)) (Jq o) (looks all o) ⟨j+i,Jq oi,looks all oi⟩:=by
 intro l
 induction l with
 |nil=>intro j es _ k o hk;simp at hk
 |cons a l ih=>
  intro j es h k o hk;simp only[rj,Bool.and_eq_true]at h;obtain⟨h1,h2,h3⟩:=h;cases k with
  |zero=>simp at hk;subst hk;exact⟨h1,ZU h2,λi oi hi=>by omega⟩
  |succ k=>
   simp at hk;obtain⟨g1,g2,g3⟩:=ih (j+1) _ h3 k o hk;rw[show j+1+k=j+(k+1) by omega]at g1 g2 g3;refine⟨g1,λe he=>g2 e (iX _ he),?_⟩;intro i oi hi iC;cases i with
   |zero=>simp at iC;subst iC;exact g2 _ (iK ..)
   |succ i=>
    simp at iC;have:=g3 i oi omQ iC
    rwa [show j+1+i=j+(i+1) by omega]at this
theorem Z4:∀(l:List Oper) (j:Nat) (t:PT Nat) (i:Nat),i<j→(gR l j t).get i=t.get i:=by
 intro l
 induction l with
 |nil=>intro j t i _;rfl
 |cons a l ih=>intro j t i hi;simp only[gR];rw[ih _ _ _ omQ,PT.bF,iQ omQ]
theorem qQp:∀(l:List Oper) (j:Nat) (t:PT Nat) (k:Nat) (o:Oper),l[k]? =some o→∃T:PT Nat,(∀i,i<j+k→(gR l j t).get i=T.get i)∧
  (gR l j t).get (j+k)=some (o.after.toList.foldl (λs e=>bif Region.binds .any e then s|||(2 ^ e.on|||zL T e.on)else s) 0):=by
 intro l
 induction l with
 |nil=>intro j t k o hk;simp at hk
 |cons a l ih=>
  intro j t k o hk;cases k with
  |zero=>
   simp at hk;subst hk;refine⟨t,?_,?_⟩
   ·intro i hi;simp only[gR];rw[Z4 _ _ _ _ omQ,PT.bF,iQ omQ]
   ·simp only[gR,Nat.add_zero];rw[Z4 _ _ _ _ omQ,PT.bF,iJ rfl];rfl
  |succ k=>simp at hk;obtain⟨T,h1,h2⟩:=ih (j+1) _ k o hk;rw[show j+1+k=j+(k+1) by omega]at h1 h2;exact⟨T,h1,h2⟩
theorem qVI {T:PT Nat} {k:Nat}:∀(l:List Edge) (s:Nat),(l.foldl (λs e=>bif Region.binds .any e then s|||(2 ^ e.on|||zL T e.on)else s) s).testBit k=true→
  s.testBit k=true∨∃e∈l,Kq e=true∧(k=e.on∨(zL T e.on).testBit k=true):=by
 intro l
 induction l with
 |nil=>intro s h;exact .inl h
 |cons a l ih=>
  intro s h;simp only[List.foldl_cons]at h;rcases ih _ h with h |⟨e,he,hb,hk⟩
  ·cases hb:Region.binds .any a
   ·rw[hb]at h;exact .inl h
   ·rw[hb]at h;simp only[cond_true,Nat.testBit_or,Bool.or_eq_true,Nat.testBit_two_pow,decide_eq_true_eq]at h;rcases h with h |h |h
    ·exact .inl h
    ·exact .inr ⟨a,iK ..,hb,.inl h.symm⟩
    ·exact .inr ⟨a,iK ..,hb,.inr h⟩
  ·exact .inr ⟨e,iX _ he,hb,hk⟩
theorem qqI {ops:Array Oper} {i k:Nat} {o:Oper} (ho:ops[i]? =some o) (hb:ky i o.after.toList=true) (h:(zL (gR ops.toList 0 .e) i).testBit k=true) :
  ∃e∈o.after,Kq e=true∧e.on<i∧(k=e.on∨(zL (gR ops.toList 0 .e) e.on).testBit k=true):=by
 obtain⟨T,h1,h2⟩:=qQp ops.toList 0 .e i o (by simpa using ho);simp only[Nat.zero_add]at h1 h2;unfold zL at h;rw[h2]at h;simp only[]at h;rcases qVI _ _ h with h |⟨e,he,u0,hk⟩
 ·simp at h
 ·have au:=JI hb e he u0;have:zL (gR ops.toList 0 .e) e.on=zL T e.on:=by unfold zL;rw[h1 _ au]
  exact⟨e,by simpa using he,u0,au,by rw[this];exact hk⟩
theorem qQ4 {t:PT Nat} {s:Nat→Prop} (hs:∀a b,s a→(zL t a).testBit b=true→s b):∀(l:List Oper) (j:Nat) (last:Option Nat),chain P t l j last=true→
  ∀k o,l[k]? =some o→zz P o.op=true→s (j+k)→(∀i,last=some i→s i)∧∀i oi,i<k→l[i]? =some oi→zz P oi.op=true→s (j+i):=by
 intro l
 induction l with
 |nil=>intro j last _ k o hk;simp at hk
 |cons a l ih=>
  intro j last h k o hk hh mC;simp only[chain]at h;cases ha:zz P a.op
  ·rw[ha]at h;cases k with
   |zero=>simp at hk;subst hk;rw[ha]at hh;cases hh
   |succ k=>
    simp at hk;rw[show j+(k+1)=j+1+k by omega]at mC;obtain⟨g1,g2⟩:=ih (j+1) last h k o hk hh mC;refine⟨g1,?_⟩;intro i oi hi iC iM;cases i with
    |zero=>simp at iC;subst iC;rw[ha]at iM;cases iM
    |succ i=>
     simp at iC;have:=g2 i oi omQ iC iM
     rwa [show j+1+i=j+(i+1) by omega]at this
  ·rw[ha]at h;simp only[cond_true,Bool.and_eq_true]at h;obtain⟨h1,h2⟩:=h;have bP:s j→∀i,last=some i→s i:=by
    intro hj i hi;subst hi;exact hs j i hj h1
   cases k with
   |zero=>exact⟨bP mC,λi oi hi=>by omega⟩
   |succ k=>
    simp at hk;rw[show j+(k+1)=j+1+k by omega]at mC;obtain⟨g1,g2⟩:=ih (j+1) (some j) h2 k o hk hh mC;have hj:=g1 j rfl;refine⟨bP hj,?_⟩;intro i oi hi iC iM;cases i with
    |zero=>exact hj
    |succ i=>
     simp at iC;have:=g2 i oi omQ iC iM
     rwa [show j+1+i=j+(i+1) by omega]at this
theorem U0 {t:PT Nat} {i:Nat}:∀(l:List Oper) (j:Nat),Xk P t i l j=false→∀k o,l[k]? =some o→zz P o.op=true→gi t i (j+k)=false:=by
 intro l
 induction l with
 |nil=>intro j _ k o hk;simp at hk
 |cons a l ih=>
  intro j h k o hk hh;simp only[Xk,Bool.or_eq_false_iff]at h;cases k with
  |zero=>simp at hk;subst hk;have:=h.1;rw[hh]at this;simpa using this
  |succ k=>
   simp at hk;have:=ih (j+1) h.2 k o hk hh
   rwa [show j+1+k=j+(k+1) by omega]at this
theorem Vw {t:PT Nat} {p:Op→Bool} {all:List Oper}:∀(l:List Oper) (i:Nat),XV P p t all l i=false→∀k o,l[k]? =some o→p o.op=true→
  ∀j oj,all[j]? =some oj→zz P oj.op=true→gi t (i+k) j=false:=by
 intro l
 induction l with
 |nil=>intro j _ k o hk;simp at hk
 |cons a l ih=>
  intro i h k o hk hp j oj hj hh;simp only[XV,Bool.or_eq_false_iff]at h;cases k with
  |zero=>simp at hk;subst hk;have h1:=h.1;rw[hp,Bool.true_and]at h1;have:=U0 all 0 h1 j oj hj hh;simpa using this
  |succ k=>
   simp at hk;have:=ih (i+1) h.2 k o hk hp j oj hj hh
   rwa [show i+1+k=i+(k+1) by omega]at this
structure Stat (P:Program) (ops:Array Oper) (M:PT Nat):Prop where
  back:∀j o,ops[j]? =some o→∀e∈o.after,Kq e=true→e.on<j
  nD:∀i o k,ops[i]? =some o→(zL M i).testBit k=true→∃e∈o.after,Kq e=true∧e.on<i∧(k=e.on∨(zL M e.on).testBit k=true)
  apart:∀i j oi oj,i<j→ops[i]? =some oi→ops[j]? =some oj→Kv (zL M j) (Jq oj) (looks ops.toList oj) ⟨i,Jq oi,looks ops.toList oi⟩
  chain:∀s:Nat→Prop,(∀a b,s a→(zL M a).testBit b=true→s b)→∀i j oi oj,i<j→ops[i]? =some oi→ops[j]? =some oj→zz P oi.op=true→zz P oj.op=true→s j→s i
theorem qzh {ops:Array Oper} (h:Da P ops=true):Stat P ops (gR ops.toList 0 .e):=by
 simp only[Da,Bool.and_eq_true]at h;obtain⟨h1,h2⟩:=h;have hl:=qVU _ _ _ h1;refine⟨?_,?_,?_,?_⟩
 ·intro j o ho e he hb;have:=(hl j o (by simpa using ho)).1;rw[Nat.zero_add]at this;exact JI this e (by simpa using he) hb
 ·intro i o k ho hk;have:=(hl i o (by simpa using ho)).1;rw[Nat.zero_add]at this;exact qqI ho this hk
 ·intro i j oi oj oL hi hj;have:=(hl j oj (by simpa using hj)).2.2 i oi oL (by simpa using hi);simpa only[Nat.zero_add]using this
 ·intro s hs i j oi oj oL hi hj iM EY Bu;have:=(qQ4 hs _ _ _ h2 j oj (by simpa using hj) EY (by simpa using Bu)).2 i oi oL (by simpa using hi) iM;simpa using this
end Go.Ae
namespace Go.Ae
open Go
variable {P:Program} {c:CV} {r r':Operand→Option AV} {h h':AH} {v:AV}
theorem jw {α:Type} {x y:Option α} {f g:α→R} {q:AV×AH} (hx:∀v,x=some v→y=some v) (hf:∀v,x=some v→f v=some q→g v=some q) (e:ob x f=some q):ob y g=some q:=by rw[qC]at e ⊢;obtain⟨a,ha,e⟩:=e;exact⟨a,hx a ha,hf a ha e⟩
theorem qKA (hr:∀x v,r x=some v→r' x=some v):∀(l:List Operand) (s:List AV),gH r l=some s→gH r' l=some s:=by
 intro l
 induction l with
 |nil=>intro s e;exact e
 |cons a l ih=>intro s e;simp only[gH,Option.bind_eq_some_iff]at e ⊢;obtain⟨x,hx,t,ht,e⟩:=e;exact⟨x,hr _ _ hx,t,ih _ ht,e⟩
theorem OZ (hr:∀x v,r x=some v→r' x=some v) {pl:Nat→Option (Nat×Nat)}:∀(l:List (Nat×Operand)) (s:List (Nat×Nat×AV)),xS pl r l=some s→xS pl r' l=some s:=by
 intro l
 induction l with
 |nil=>intro s e;exact e
 |cons a l ih=>intro s e;obtain⟨i,x⟩:=a;simp only[xS,Option.bind_eq_some_iff,Option.map_eq_some_iff]at e ⊢;obtain⟨p,hp,x,hx,t,ht,e⟩:=e;exact⟨p,hp,x,hr _ _ hx,t,ih _ ht,e⟩
theorem qVn (hr:∀x v,r x=some v→r' x=some v) (x:Option Operand) (s:Option AV) (e:YK r x=some s):YK r' x=some s:=by
 cases x with
 |none=>exact e
 |some x=>simp only[YK,Option.map_eq_some_iff]at e ⊢;obtain⟨y,hy,e⟩:=e;exact⟨y,hr _ _ hy,e⟩
theorem UA {o:Op} {k:AV→AH→R} {q:AV×AH} (hr:∀x v,r x=some v→r' x=some v) (e:bh P c o r h k=some q):bh P c o r' h k=some q:=by
 have m1:=qKA hr;have m2:=λpl=>OZ hr (pl:=pl);have m3:=qVn hr;cases o with
 |call cl=>
  cases hc:cl.callee with
  |value f=>simp only[bh,hc]at e ⊢;exact jw (hr _) (λ_ _=>jw (m1 _) λ_ _ e=>e) e
  |invoke x name=>simp only[bh,hc]at e ⊢;exact jw (hr _) (λ_ _=>jw (m1 _) λ_ _ e=>e) e
  |builtin b=>
   cases b<;>simp only[bh,hc,reduceCtorEq]at e ⊢
   case len=>
    generalize cl.argTypes.toList=ts at*;generalize cl.args.toList=xs at*;rcases xs with _ |⟨x,xs⟩<;>rcases ts with _ |⟨t,ts⟩<;>simp only[reduceCtorEq]at e ⊢
    exact jw (hr _) (λ_ _ e=>e) e
   case min=>exact jw (m1 _) (λ_ _ e=>e) e
   case max=>exact jw (m1 _) (λ_ _ e=>e) e
   case append=>
    generalize cl.argTypes.toList=ts at*;generalize cl.args.toList=xs at*;rcases xs with _ |⟨s,_ |⟨x,_ |⟨y,xs⟩⟩⟩<;>rcases ts with _ |⟨t,_ |⟨u,ts⟩⟩<;>simp only[reduceCtorEq]at e ⊢
    refine jw (λ_ e=>e) (λdu _ e=>?_) e;revert e
    split
    ·intro e;exact e
    ·refine jw (λ_ e=>e) (λd _ e=>?_);revert e
     split
     ·exact jw (λ_ e=>e) (λ_ _=>jw (hr _) λ_ _=>jw (hr _) λ_ _ e=>e)
     ·intro e;exact e
 |build t ps=>
  simp only[bh]at e ⊢;refine jw (λ_ e=>e) (λ_ _=>jw (λ_ e=>e) λd _ e=>?_) e;revert e
  split
  ·exact jw (λ_ e=>e) (λ_ _=>jw (m2 _ _) λ_ _ e=>e)
  ·exact jw (λ_ e=>e) (λ_ _=>jw (m2 _ _) λ_ _ e=>e)
  ·intro e;exact e
 |buildSlice t n ps=>
  simp only[bh]at e ⊢;refine jw (λ_ e=>e) (λd _ e=>?_) e;revert e
  split
  ·refine jw (λ_ e=>e) (λ_ _ e=>?_);rw[xv]at e ⊢;exact⟨e.1,jw (m2 _ _) (λ_ _ e=>e) e.2⟩
  ·intro e;exact e
 |makeFunc fn a cp=>
  simp only[bh]at e ⊢;revert e
  split
  ·exact jw (m1 _) (λ_ _=>jw (m1 _) λ_ _ e=>e)
  ·intro e;exact e
 |makeInterface t x=>
  simp only[bh]at e ⊢;refine jw (λ_ e=>e) (λd _ e=>?_) e;revert e
  split
  ·intro e;exact e
  ·exact jw (hr _) λ_ _ e=>e
 |makeSlice t a b=>
  simp only[bh]at e ⊢;refine jw (λ_ e=>e) (λd _ e=>?_) e;revert e
  split
  ·exact jw (λ_ e=>e) (λ_ _=>jw (hr _) λ_ _=>jw (hr _) λ_ _ e=>e)
  ·intro e;exact e
 |slice t x lo hi mx=>
  simp only[bh]at e ⊢;revert e
  split
  ·intro e;exact e
  ·exact jw (hr _) λ_ _=>jw (m3 _) λ_ _=>jw (m3 _) λ_ _ e=>e
 |pick a b d=>exact jw (hr _) (λ_ _=>jw (hr _) λ_ _=>jw (hr _) λ_ _ e=>e) e
 |store t a x=>exact jw (hr _) (λ_ _=>jw (hr _) λ_ _ e=>e) e
 |binOp op t x y u=>exact jw (hr _) (λ_ _=>jw (hr _) λ_ _ e=>e) e
 |indexAddr t x i=>exact jw (hr _) (λ_ _=>jw (hr _) λ_ _ e=>e) e
 |index t x i=>exact jw (hr _) (λ_ _=>jw (hr _) λ_ _ e=>e) e
 |alloc t=>exact e
 |_=>first |exact jw (hr _) (λ_ _ e=>e) e |(simp only[bh,reduceCtorEq]at e;done)
def ma (F:Nat→Option AV) (dst:Option Tmp) (v:AV):Nat→Option AV:=λt=>if dst=some t then some v else F t
def dT (F:Nat→Option AV):Operand→Option AV
 | .tmp t=>F t
 | .const v=>UT v
 | .global _=>none
 | .func f=>some (.fn f [] [])
def kq (tm:PT AV) (F:Nat→Option AV):Prop:=∀t v,tm.get t=some v→F t=some v
theorem Dr {tm:PT AV} {F:Nat→Option AV} (h:kq tm F):∀x v,ev tm x=some v→dT F x=some v:=by
 intro x v e;cases x with
 |tmp t=>exact h t v e
 |_=>exact e
def kJ:AV→Bool→Bool
 | .bool t,w=>t==w
 |_,_=>false
structure EZ (P:Program) (c:CV) (n:Nat) (ops:Array Oper) (LP:JH→Prop) (HP:Qi→Prop) (i:Nat) (o:Oper) (F:Nat→Option AV) (h:AH) (v:AV) (b:Bool) (h':AH):Prop where
  yes:b=true→ch P c o.op (dT F) h=some (v,h')
  no:b=false→v=.undef∧h'=h
  g0:o.guard=none→b=true
  g1:∀g,o.guard=some g→∃d vg,wn ops.toList o=some d∧F d=some vg∧b=kJ vg g.2
  dst:∀d,o.dst=some d→d<n
  ld:b=true→yo P o.op=true→∃a,JF (dT F) o.op=some a∧LP ⟨i,a,gk P o.op,v⟩
  hv:b=true→zz P o.op=true→HP ⟨i,h,h'⟩
inductive lM (P:Program) (c:CV) (n:Nat) (ops:Array Oper) (LP:JH→Prop) (HP:Qi→Prop):Nat→(Nat→Option AV)→AH→Nat→(Nat→Option AV)→AH→Prop where
  |nil (i:Nat) (F:Nat→Option AV) (h:AH):lM P c n ops LP HP i F h i F h
  | cons (i : Nat) (o : Oper) (F : Nat → Option AV) (h : AH) (v : AV) (b : Bool) (h' : AH) (j : Nat) (F' : Nat → Option AV) (h2 : AH) : ops[i]? = some o → EZ P c n ops LP HP i o F h v b h' →
      lM P c n ops LP HP (i+1) (ma F o.dst v) h' j F' h2→lM P c n ops LP HP i F h j F' h2
theorem lM.trans {n:Nat} {ops:Array Oper} {LP:JH→Prop} {HP:Qi→Prop} {i j k:Nat} {F F' Ll:Nat→Option AV} {h h' nu:AH}
  (a:lM P c n ops LP HP i F h j F' h') (b:lM P c n ops LP HP j F' h' k Ll nu):lM P c n ops LP HP i F h k Ll nu:=by
 induction a with
 |nil=>exact b
 |cons i o F h v b' h' j F' h2 ho hs _ ih=>exact .cons i o F h v b' h' k _ _ ho hs (ih b)
structure Tr (P:Program) (c:CV) (n:Nat) (ops:Array Oper) (LP:JH→Prop) (HP:Qi→Prop) (F:Nat→Nat→Option AV) (H:Nat→AH) (V:Nat→AV) (W:Nat→Bool):Prop where
  step:∀i o,ops[i]? =some o→EZ P c n ops LP HP i o (F i) (H i) (V i) (W i) (H (i+1))∧F (i+1)=ma (F i) o.dst (V i)
theorem lM.fns {n:Nat} {ops:Array Oper} {LP:JH→Prop} {HP:Qi→Prop} {i j:Nat} {F0 F1:Nat→Option AV} {h0 h1:AH} (a:lM P c n ops LP HP i F0 h0 j F1 h1) :
  i≤j∧∃(F:Nat→Nat→Option AV) (H:Nat→AH) (V:Nat→AV) (W:Nat→Bool),F i=F0∧H i=h0∧F j=F1∧H j=h1∧
   ∀k o,i≤k→k<j→ops[k]? =some o→EZ P c n ops LP HP k o (F k) (H k) (V k) (W k) (H (k+1))∧F (k+1)=ma (F k) o.dst (V k):=by
 induction a with
 |nil i F h=>exact⟨Nat.le_refl _,λ_=>F,λ_=>h,λ_=>.undef,λ_=>true,rfl,rfl,rfl,rfl,λk o h1 h2=>by omega⟩
 |cons i o F h v b h' j F' h2 ho hs _ ih=>
  obtain⟨oL,G,H,V,W,e1,e2,e3,e4,e5⟩:=ih;refine⟨by omega,λk=>if k=i then F else G k,λk=>if k=i then h else H k,λk=>if k=i then v else V k,λk=>if k=i then b else W k,by simp,by simp,?_,?_,?_⟩
  ·simp only[];rw[iQ omQ];exact e3
  ·simp only[];rw[iQ omQ];exact e4
  ·intro k o' hk hkj dv;simp only[];by_cases n9:k=i
   ·subst n9;rw[ho]at dv;cases dv;rw[iJ rfl,iJ rfl,iJ rfl,iJ rfl,iQ omQ,iQ omQ,e1,e2];exact⟨hs,rfl⟩
   ·rw[iQ n9,iQ n9,iQ n9,iQ n9,iQ omQ,iQ omQ];exact e5 k o' omQ hkj dv
end Go.Ae
namespace Go.Ae
open Go
variable {P:Program} {c:CV} {n:Nat} {ops:Array Oper}
theorem Yu {tm:PT AV} {F:Nat→Option AV} (h:kq tm F) {dst:Option Tmp} {v:AV} {k:PT AV→R} {r:AV×AH} (e:Un n tm dst v k=some r) :
  ∃tm',k tm'=some r∧kq tm' (ma F dst v)∧∀d,dst=some d→d<n:=by
 cases dst with
 |none=>exact⟨tm,e,λt u hu=>by simp only[ma];rw[iQ aN];exact h t u hu,λd hd=>by cases hd⟩
 |some d=>
  simp only[Un,xv]at e;refine⟨_,e.2,?_,λd' hd=>by cases hd;exact jh e.1⟩;intro t u hu;rw[PT.bF]at hu;simp only[ma];by_cases hd:d=t
  ·subst hd;rw[iJ rfl]at hu ⊢;exact hu
  ·rw[iQ hd]at hu;rw[iQ (by simpa using hd)];exact h t u hu
theorem MW {o:Op} (hl:yo P o=true):Ku o=true∨QJ P o=true∨wW P o=true:=by unfold yo at hl;rw[Bool.or_eq_true,Bool.or_eq_true]at hl;exact hl
theorem qG1 {o:Op} (hl:QJ P o=true):∃t x lo hi mx,o=.slice t x lo hi mx:=by
 cases o<;>first |exact⟨_,_,_,_,_,rfl⟩ |cases hl
theorem qkO {o:Op} (hl:yo P o=true):zz P o=false:=by
 rcases MW hl with h |h |h
 ·obtain⟨t,x,rfl⟩:=XA h;rfl
 ·obtain⟨t,x,lo,hi,mx,rfl⟩:=qG1 h;rfl
 ·exact Lk h
theorem qj5 {tm:PT AV} {F:Nat→Option AV} (T:kq tm F) {o:Op} {a:AV} (h:JF (ev tm) o=some a):JF (dT F) o=some a:=by
 cases o<;>first |exact Dr T _ _ h |cases h
theorem Lm {F:Nat→Option AV} {h h':AH} {o:Op} {v:AV} (e:ch P c o (dT F) h=some (v,h')) (hl:yo P o=true):∃a,JF (dT F) o=some a:=by
 rcases MW hl with hl |hl |hl
 ·obtain⟨t,x,rfl⟩:=XA hl;obtain⟨_,b,off,hx,_⟩:=U4 e;exact⟨_,hx⟩
 ·obtain⟨_,x,_,u,_,hu,_⟩:=M6 hl e;exact⟨u,hu⟩
 ·obtain⟨_,_,_,x,_,u,_,hu,_⟩:=Ud hl e;exact⟨u,hu⟩
theorem VE {F:Nat→Option AV} {dst:Option Tmp} {v:AV} {d:Nat} (h:dst≠some d):ma F dst v d=F d:=by simp only[ma];rw[iQ h]
abbrev LT:JH→Prop:=λ_=>True
abbrev HT:Qi→Prop:=λ_=>True
theorem qY2 {g:Option (Nat×Bool)} {r:AV×AH}:∀(l:List Oper) (j:Nat) (tm:PT AV) (F:Nat→Option AV) (h:AH) (k:PT AV→AH→R),
  (∀i o,l[i]? =some o→ops[j+i]? =some o∧o.guard=g)→
  (∀q,g=some q→∃d vg,(∀o:Oper,o.guard=some q→wn ops.toList o=some d)∧writes d l=false∧F d=some vg∧kJ vg q.2=true)→
  kq tm F→uM P c n l tm h k=some r→∃tm' h' F',k tm' h'=some r∧kq tm' F'∧lM P c n ops LT HT j F h (j+l.length) F' h':=by
 intro l
 induction l with
 |nil=>intro j tm F h k _ _ T e;exact⟨tm,h,F,e,T,.nil _ _ _⟩
 |cons o l ih=>
  intro j tm F h k hl hg T e;simp only[uM]at e;obtain⟨v,h1,e1,e⟩:=Jc e;have e1:=UA (Dr T) e1;obtain⟨cu,e,T1,hd⟩:=Yu T e;obtain⟨ho,ey⟩:=hl 0 o rfl
  obtain⟨tm',h',F',e',T',S⟩:=ih (j+1) cu _ h1 k (λi o' hi=>by have:=hl (i+1) o' hi;rwa [show j+(i+1)=j+1+i by omega]at this) (by
   intro q hq;obtain⟨d,vg,g1,g2,g3,g4⟩:=hg q hq;refine⟨d,vg,g1,?_,?_,g4⟩
   ·simp only[writes,Bool.or_eq_false_iff]at g2;exact g2.2
   ·rw[VE (XH g2 o (iK ..))];exact g3) T1 e
  refine⟨tm',h',F',e',T',?_⟩;rw[show j+(o::l).length=j+1+l.length by simp;omega];refine .cons j o F h v true h1 _ _ _ ho ⟨λ_=>e1,(λhh=>by cases hh),λ_=>rfl,?_,hd,?_,λ_ _=>trivial⟩ S
  ·intro q hq;rw[ey]at hq;obtain⟨d,vg,g1,g2,g3,g4⟩:=hg q hq;exact⟨d,vg,g1 o (by rw[ey,hq]),g3,g4.symm⟩
  ·intro _ rE;obtain⟨a,ha⟩:=Lm e1 rE;exact⟨a,ha,trivial⟩
theorem qX9 {q:Nat×Bool} {d:Nat} {vg:AV} {h:AH} {r:AV×AH}:∀(l:List Oper) (j:Nat) (tm:PT AV) (F:Nat→Option AV) (k:PT AV→R),
  (∀i o,l[i]? =some o→ops[j+i]? =some o∧o.guard=some q)→
  (∀o:Oper,o.guard=some q→wn ops.toList o=some d)→writes d l=false→F d=some vg→kJ vg q.2=false→
  kq tm F→UW n l tm k=some r→∃tm' F',k tm'=some r∧kq tm' F'∧lM P c n ops LT HT j F h (j+l.length) F' h:=by
 intro l
 induction l with
 |nil=>intro j tm F k _ _ _ _ _ T e;exact⟨tm,F,e,T,.nil _ _ _⟩
 |cons o l ih=>
  intro j tm F k hl mV hw hF sH T e;simp only[UW]at e;obtain⟨cu,e,T1,hd⟩:=Yu T e;obtain⟨ho,ey⟩:=hl 0 o rfl;have dy:=XH hw;obtain⟨tm',F',e',T',S⟩:=ih (j+1) cu _ k (λi o' hi=>by have:=hl (i+1) o' hi;rwa [show j+(i+1)=j+1+i by omega]at this) mV
   (by simp only[writes,Bool.or_eq_false_iff]at hw;exact hw.2) (by rw[VE (dy o (iK ..))];exact hF) sH T1 e
  refine⟨tm',F',e',T',?_⟩;rw[show j+(o::l).length=j+1+l.length by simp;omega];refine .cons j o F h .undef false h _ _ _ ho ⟨(λhh=>by cases hh),λ_=>⟨rfl,rfl⟩,(λhh=>by rw[ey]at hh;cases hh),?_,hd,(λhh=>by cases hh),(λhh=>by cases hh)⟩ S;intro q' hq;rw[ey]at hq;cases hq;exact⟨d,vg,mV o ey,hF,sH.symm⟩
theorem qgu {tm:PT AV} {F:Nat→Option AV} (T:kq tm F):∀(L:List Nat) (acc:PT AV),kq acc F→xA tm L=true→kq (gn L (vr L tm) acc) F:=by
 intro L
 induction L with
 |nil=>intro acc A _;exact A
 |cons t L ih=>
  intro acc A hh;simp only[xA,Bool.and_eq_true]at hh;simp only[vr,gn];refine ih _ ?_ hh.2;have h1:=hh.1;unfold has at h1
  split at h1
  ·rename_i v hv;intro s u hs;rw[PT.bF]at hs;by_cases e:t=s
   ·subst e;rw[iJ rfl]at hs;cases hs;exact T t v hv
   ·rw[iQ e]at hs;exact A s u hs
  ·cases h1
theorem Ln {tm:PT AV} {F:Nat→Option AV} (T:kq tm F) (L:List Nat) (hh:xA tm L=true):kq (gn L (vr L tm) .e) F:=qgu T L .e (λt v hv=>by rw[PT.eo]at hv;cases hv) hh
theorem Uq {v:AV} {w:Bool} {a b:R} {r:AV×AH} (e:vp v w a b=some r):(kJ v w=true∧a=some r)∨(kJ v w=false∧b=some r):=by
 rw[K9]at e
 split at e
 ·rename_i t;simp only[kJ];cases ht:(t==w)
  ·rw[ht]at e;exact .inr ⟨rfl,e⟩
  ·rw[ht]at e;exact .inl ⟨rfl,e⟩
 ·rename_i hn;refine .inr ⟨?_,e⟩;cases v<;>first |rfl |exact absurd rfl (hn _)
theorem qYL {r:AV×AH}:∀(f:Nat) (l:List Oper) (j:Nat) (Ls:List (List Nat)) (tm:PT AV) (F:Nat→Option AV) (h:AH) (k:PT AV→AH→R),
  (∀i o,l[i]? =some o→ops[j+i]? =some o)→kq tm F→YZ P c n ops.toList f l Ls tm h k=some r→
  ∃tm' h' F',k tm' h'=some r∧kq tm' F'∧lM P c n ops LT HT j F h (j+l.length) F' h':=by
 intro f
 induction f with
 |zero=>
  intro l j Ls tm F h k hl T e;cases l with
  |nil=>exact⟨tm,h,F,e,T,.nil _ _ _⟩
  |cons o l=>simp only[YZ,reduceCtorEq]at e
 |succ f ih=>
  intro l j Ls tm F h k hl T e;cases l with
  |nil=>exact⟨tm,h,F,e,T,.nil _ _ _⟩
  |cons o l=>
   cases hg:o.guard with
   |none=>simp only[YZ,hg]at e;obtain⟨v,h1,e1,e⟩:=Jc e;have e1:=UA (Dr T) e1;obtain⟨cu,e,T1,hd⟩:=Yu T e;obtain⟨tm',h',F',e',T',S⟩:=ih l (j+1) Ls cu _ h1 k (λi o' hi=>by have:=hl (i+1) o' hi;rwa [show j+(i+1)=j+1+i by omega]at this) T1 e;refine⟨tm',h',F',e',T',?_⟩;rw[show j+(o::l).length=j+1+l.length by simp;omega];refine .cons j o F h v true h1 _ _ _ (hl 0 o rfl) ⟨λ_=>e1,(λhh=>by cases hh),λ_=>rfl,(λq hq=>by rw[hg]at hq;cases hq),hd,?_,λ_ _=>trivial⟩ S;intro _ rE;obtain⟨a,ha⟩:=Lm e1 rE;exact⟨a,ha,trivial⟩
   |some g=>
    simp only[YZ,hg,qC]at e;obtain⟨d,hd,vg,rD,e⟩:=e;cases Ls with
    |nil=>cases e
    |cons L sf=>
     simp only[Vc]at e;obtain⟨Bk,e⟩:=e;have mV:∀o':Oper,o'.guard=some g→wn ops.toList o'=some d:=by intro o' nE;unfold wn at hd ⊢;rw[hg]at hd;rw[nE];exact hd
     have hF:=T d vg rD;have fC:o::l=(o::(zy g l).1)++(zy g l).2:=by rw[List.cons_append,MM]
     have pT:∀i o',(o::(zy g l).1)[i]? =some o'→ops[j+i]? =some o'∧o'.guard=some g:=by
      intro i o' hi;refine⟨hl i o' ?_,?_⟩
      ·rw[fC,List.getElem?_append_left (List.getElem?_eq_some_iff.1 hi).1];exact hi
      ·rcases List.mem_cons.1 (List.mem_of_getElem? hi)with rfl |hm
       ·exact hg
       ·exact La g l o' hm
     have lq:∀i o',(zy g l).2[i]? =some o'→ops[j+(o::(zy g l).1).length+i]? =some o':=by intro i o' hi;rw[Nat.add_assoc];refine hl _ o' ?_;rw[fC,List.getElem?_append_right omQ];rw[show(o::(zy g l).1).length+i-(o::(zy g l).1).length=i by omega];exact hi
     have hlen:j+(o::l).length=j+(o::(zy g l).1).length+(zy g l).2.length:=by have:=congrArg List.length fC;simp only[List.length_append]at this;omega
     have fin:∀cu h1 F1,kq cu F1→lM P c n ops LT HT j F h (j+(o::(zy g l).1).length) F1 h1→
       cx (xA cu L) (YZ P c n ops.toList f (zy g l).2 sf (gn L (vr L cu) .e) h1 k) none=some r→
       ∃tm' h' F',k tm' h'=some r∧kq tm' F'∧lM P c n ops LT HT j F h (j+(o::l).length) F' h':=by
      intro cu h1 F1 T1 S1 e1;rw[xv]at e1;obtain⟨tm',h',F',e',T',S⟩:=ih (zy g l).2 _ sf _ F1 h1 k lq (Ln T1 L e1.1) e1.2;refine⟨tm',h',F',e',T',?_⟩;rw[hlen];exact S1.trans S
     simp only[xd]at e;rcases Uq e with⟨hw,e⟩ |⟨hw,e⟩
     ·obtain⟨cu,h1,F1,e1,T1,S1⟩:=qY2 (o::(zy g l).1) j tm F h _ pT (by
       intro q hq;cases hq;exact⟨d,vg,mV,Bk,hF,hw⟩) T e
      exact fin cu h1 F1 T1 S1 e1
     ·obtain⟨cu,F1,e1,T1,S1⟩:=qX9 (P:=P) (c:=c) (h:=h) (o::(zy g l).1) j tm F _ pT mV Bk hF hw T e;exact fin cu h F1 T1 S1 e1
def mW (kn:List (Nat×Bool×Bool)) (F:Nat→Option AV):Prop:=∀x∈kn,∃v,F x.1=some v∧kJ v x.2.1=x.2.2
theorem Jl {kn:List (Nat×Bool×Bool)} {F:Nat→Option AV} {d:Nat} {w t:Bool} {v:AV} (K:mW kn F) (hv:F d=some v) (e:JB kn d w=some t):kJ v w=t:=by
 induction kn with
 |nil=>cases e
 |cons x r ih=>
  obtain⟨u,h1,h2⟩:=K x (iK ..);unfold JB at e;cases h3:(Nat.beq x.1 d&&(x.2.1==w))
  ·rw[h3,cond_false]at e;cases h4:(Nat.beq x.1 d&&x.2.2)
   ·rw[h4,cond_false]at e;exact ih (λy hy=>K y (iX _ hy)) e
   ·rw[h4,cond_true]at e;cases e;rw[Bool.and_eq_true]at h4;have hd:=Nat.eq_of_beq_eq_true h4.1;rw[hd,hv]at h1;cases h1;rw[h4.2]at h2;rw[h4.1,Bool.true_and]at h3;cases v with
    |bool b=>simp only[kJ,beq_iff_eq]at h2 ⊢;subst h2;exact h3
    |_=>rfl
  ·rw[h3,cond_true]at e;cases e;rw[Bool.and_eq_true]at h3;have hd:=Nat.eq_of_beq_eq_true h3.1;rw[hd,hv]at h1;cases h1;rw[← h2,show x.2.1=w by simpa using h3.2]
theorem mW.drop {kn:List (Nat×Bool×Bool)} {F:Nat→Option AV} {dst:Option Tmp} {v:AV} (K:mW kn F):mW (dq dst kn) (ma F dst v):=by
 induction kn with
 |nil=>intro x hx;cases hx
 |cons x r ih=>
  have ihr:=ih λy hy=>K y (iX _ hy);unfold dq;cases hb:tf dst x.1
  ·rw[cond_false];intro y hy;rcases List.mem_cons.1 hy with rfl |hy
   ·obtain⟨u,h1,h2⟩:=K y (iK ..);refine⟨u,?_,h2⟩;simp only[ma];rw[iQ ?_]
    ·exact h1
    ·cases dst with
     |none=>simp
     |some t=>simp only[tf]at hb;intro hh;cases hh;rw[Nat.beq_refl]at hb;cases hb
   ·exact ihr y hy
  ·rw[cond_true];exact ihr
theorem Gv {x:Operand} {F:Nat→Option AV} {b:Bool} {v:AV} (h:Je x=some b) (e:dT F x=some v):v=.bool b:=by
 cases x<;>try (cases h;done)
 rename_i k;simp only[Je]at h;have e:UT k=some v:=e;rw[e]at h;cases v<;>simp only[Option.some.injEq,reduceCtorEq]at h
 rw[h]
theorem qjF {kn:List (Nat×Bool×Bool)} {F:Nat→Option AV} {o:Op} {h h':AH} {v:AV} {b:Bool} (K:mW kn F) (e:ch P c o (dT F) h=some (v,h')) (hl:KS kn o=some b):v=.bool b:=by
 have mv:∀d,Db kn d=some b→F d=some v→v=.bool b:=λd hb hv=>by
  unfold Db at hb
  split at hb
  ·rename_i h1;cases hb;have:=Jl K hv h1;cases v<;>first |(cases this;done) |skip
   rename_i s;cases s<;>first |rfl |cases this
  ·split at hb
   ·rename_i h1;cases hb;have:=Jl K hv h1;cases v<;>first |(cases this;done) |skip
    rename_i s;cases s<;>first |rfl |cases this
   ·cases hb
 cases o<;>try (cases hl;done)
 case move x=>
  cases x<;>try (cases hl;done)
  unfold ch at e;simp only[bh,qC]at e;obtain⟨u,hu,e⟩:=e;simp only[Option.some.injEq,Prod.mk.injEq]at e;exact mv _ hl (by rw[← e.1];exact hu)
 case assign x=>
  cases x<;>try (cases hl;done)
  unfold ch at e;simp only[bh,qC]at e;obtain⟨u,hu,e⟩:=e;simp only[Option.some.injEq,Prod.mk.injEq]at e;exact mv _ hl (by rw[← e.1];exact hu)
 rename_i x y z;cases x<;>try (cases hl;done)
 rename_i d;simp only[KS]at hl;unfold ch at e;simp only[bh,qC]at e;obtain⟨vx,hx,vy,hy,vz,hz,e⟩:=e;have hx:F d=some vx:=hx;cases hk:JB kn d true with
 |none=>
  rw[hk]at hl;cases iq:JB kn d false with
  |none=>rw[iq]at hl;cases hl
  |some t=>
   rw[iq]at hl;cases t with
   |true=>cases hl
   |false=>
    have hw:=Jl K hx iq;cases vx with
    |bool s=>
     cases s with
     |false=>cases hw
     |true=>have hl:Je y=some b:=hl;have e2:some (vy,h)=some (v,h'):=e;simp only[Option.some.injEq,Prod.mk.injEq]at e2;rw[← e2.1];exact Gv hl hy
    |_=>cases e
 |some t=>
  rw[hk]at hl;have hw:=Jl K hx hk;cases vx with
  |bool s=>
   have cC:s=t:=by cases s<;>cases t<;>first |rfl |cases hw
   subst cC;cases s with
   |false=>have hl:Je z=some b:=hl;have e2:some (vz,h)=some (v,h'):=e;simp only[Option.some.injEq,Prod.mk.injEq]at e2;rw[← e2.1];exact Gv hl hz
   |true=>have hl:Je y=some b:=hl;have e2:some (vy,h)=some (v,h'):=e;simp only[Option.some.injEq,Prod.mk.injEq]at e2;rw[← e2.1];exact Gv hl hy
  |_=>cases e
theorem mW.oM {kn:List (Nat×Bool×Bool)} {F:Nat→Option AV} {o:Op} {dst:Option Tmp} {h h':AH} {v:AV} (K:mW kn F) (e:ch P c o (dT F) h=some (v,h')):mW (kI dst o kn) (ma F dst v):=by
 unfold kI;generalize IG=b;cases b
 ·exact K.drop
 ·rw[cond_true];cases dst with
  |none=>exact K.drop
  |some t=>
   cases hl:KS kn o with
   |none=>exact K.drop
   |some b=>
    have:=qjF K e hl;subst this;intro x hx;rcases List.mem_cons.1 hx with rfl |hx
    ·exact⟨.bool b,by simp[ma],by cases b<;>rfl⟩
    ·rcases List.mem_cons.1 hx with rfl |hx
     ·exact⟨.bool b,by simp[ma],by cases b<;>rfl⟩
     ·exact K.drop x hx
theorem qQ8 {kn:List (Nat×Bool×Bool)} {F:Nat→Option AV} {d:Nat} {w:Bool} {v:AV} {a b:R} {r:AV×AH} (K:mW kn F) (hv:F d=some v) (e:IF (JB kn d w) v w a b=some r):(kJ v w=true∧a=some r)∨(kJ v w=false∧b=some r):=by
 cases hl:JB kn d w with
 |none=>rw[hl]at e;exact Uq e
 |some t=>
  rw[hl]at e;have:=Jl K hv hl;cases t
  ·exact .inr ⟨this,e⟩
  ·exact .inl ⟨this,e⟩
theorem mW.more {kn:List (Nat×Bool×Bool)} {F:Nat→Option AV} {d:Nat} {w t:Bool} {v:AV} (K:mW kn F) (hv:F d=some v) (hw:kJ v w=t):mW ((d,w,t)::kn) F:=by
 intro x hx;rcases List.mem_cons.1 hx with rfl |hx
 ·exact⟨v,hv,hw⟩
 ·exact K x hx
theorem qWM {r:AV×AH}:∀(l:List Oper) (j:Nat) (kn:List (Nat×Bool×Bool)) (tm:PT AV) (F:Nat→Option AV) (h:AH) (ls:List JH) (hs:List Qi) (k:PT AV→AH→List JH→List Qi→R),
  (∀i o,l[i]? =some o→ops[j+i]? =some o)→kq tm F→mW kn F→Yo P c n ops.toList l j kn tm h ls hs k=some r→
  ∃tm' h' F' lN lO,k tm' h' lN lO=some r∧kq tm' F'∧(∀x∈ls,x∈lN)∧(∀x∈hs,x∈lO)∧∀(LP:JH→Prop) (HP:Qi→Prop),(∀x∈lN,LP x)→(∀x∈lO,HP x)→lM P c n ops LP HP j F h (j+l.length) F' h':=by
 intro l
 induction l with
 |nil=>intro j kn tm F h ls hs k _ T _ e;exact⟨tm,h,F,ls,hs,e,T,λ_ h=>h,λ_ h=>h,λ_ _ _ _=>.nil _ _ _⟩
 |cons o l ih=>
  intro j kn tm F h ls hs k hl T KN e;have dO:∀i o',l[i]? =some o'→ops[j+1+i]? =some o':=λi o' hi=>by have:=hl (i+1) o' hi;rwa [show j+(i+1)=j+1+i by omega]at this
  have ho:=hl 0 o rfl;have yes:∀(Bv:List (Nat×Bool×Bool)) (Ds:mW Bv F) (sI:∀g,o.guard=some g→∃d vg,wn ops.toList o=some d∧F d=some vg∧true=kJ vg g.2),
    bh P c o.op (ev tm) h (λv h'=>Un n tm o.dst v λtm'=>
     cx (yo P o.op) (ob (JF (ev tm) o.op) λa=>Yo P c n ops.toList l (j+1) (kI o.dst o.op Bv) tm' h' (⟨j,a,gk P o.op,v⟩::ls) hs k) (cx (zz P o.op) (Yo P c n ops.toList l (j+1) (kI o.dst o.op Bv) tm' h' ls (⟨j,h,h'⟩::hs) k) (Yo P c n ops.toList l (j+1) (kI o.dst o.op Bv) tm' h' ls hs k)))=some r→
    ∃tm' h' F' lN lO,k tm' h' lN lO=some r∧kq tm' F'∧(∀x∈ls,x∈lN)∧(∀x∈hs,x∈lO)∧∀(LP:JH→Prop) (HP:Qi→Prop),(∀x∈lN,LP x)→(∀x∈lO,HP x)→lM P c n ops LP HP j F h (j+(o::l).length) F' h':=by
   intro Bv Ds sI e;obtain⟨v,h1,e1,e⟩:=Jc e;have e1:=UA (Dr T) e1;obtain⟨cu,e,T1,hd⟩:=Yu T e;rw[show j+(o::l).length=j+1+l.length by simp;omega];cases rE:yo P o.op
   ·rw[rE]at e;simp only[cx]at e;cases Bw:zz P o.op
    ·rw[Bw]at e;simp only[]at e;obtain⟨tm',h',F',lN,lO,e',T',s1,s2,S⟩:=ih (j+1) _ cu _ h1 ls hs k dO T1 (Ds.oM e1) e;refine⟨tm',h',F',lN,lO,e',T',s1,s2,λLP HP hL hH=>?_⟩;exact .cons j o F h v true h1 _ _ _ ho ⟨λ_=>e1,(λhh=>by cases hh),λ_=>rfl,sI,hd,(λ_ hh=>by rw[rE]at hh;cases hh),(λ_ hh=>by rw[Bw]at hh;cases hh)⟩ (S LP HP hL hH)
    ·rw[Bw]at e;simp only[]at e;obtain⟨tm',h',F',lN,lO,e',T',s1,s2,S⟩:=ih (j+1) _ cu _ h1 ls _ k dO T1 (Ds.oM e1) e;refine⟨tm',h',F',lN,lO,e',T',s1,λx hx=>s2 x (iX _ hx),λLP HP hL hH=>?_⟩;exact .cons j o F h v true h1 _ _ _ ho ⟨λ_=>e1,(λhh=>by cases hh),λ_=>rfl,sI,hd,(λ_ hh=>by rw[rE]at hh;cases hh),λ_ _=>hH _ (s2 _ (iK ..))⟩ (S LP HP hL hH)
   ·rw[rE]at e;simp only[cx,qC]at e;obtain⟨a,ha,e⟩:=e;obtain⟨tm',h',F',lN,lO,e',T',s1,s2,S⟩:=ih (j+1) _ cu _ h1 _ hs k dO T1 (Ds.oM e1) e;have tM:JF (dT F) o.op=some a:=qj5 T ha;refine⟨tm',h',F',lN,lO,e',T',λx hx=>s1 x (iX _ hx),s2,λLP HP hL hH=>?_⟩;refine .cons j o F h v true h1 _ _ _ ho ⟨λ_=>e1,(λhh=>by cases hh),λ_=>rfl,sI,hd,λ_ _=>⟨a,tM,hL _ (s1 _ (iK ..))⟩,?_⟩ (S LP HP hL hH);intro _ hh;rw[qkO rE]at hh;cases hh
  cases hg:o.guard with
  |none=>simp only[Yo,hg]at e;exact yes kn KN (λg hh=>by rw[hg]at hh;cases hh) e
  |some g=>
   simp only[Yo,hg,qC]at e;obtain⟨d,hd,vg,rD,e⟩:=e;rcases qQ8 KN (T d vg rD) e with⟨hw,e⟩ |⟨hw,e⟩
   ·exact yes _ (KN.more (T d vg rD) hw) (λg' hh=>by rw[hg]at hh;cases hh;exact⟨d,vg,hd,T d vg rD,hw.symm⟩) e
   ·obtain⟨cu,e,T1,oN⟩:=Yu T e;obtain⟨tm',h',F',lN,lO,e',T',s1,s2,S⟩:=ih (j+1) _ cu _ h ls hs k dO T1 (KN.more (T d vg rD) hw).drop e;refine⟨tm',h',F',lN,lO,e',T',s1,s2,λLP HP hL hH=>?_⟩;rw[show j+(o::l).length=j+1+l.length by simp;omega];refine .cons j o F h .undef false h _ _ _ ho ⟨(λhh=>by cases hh),λ_=>⟨rfl,rfl⟩,(λhh=>by rw[hg]at hh;cases hh),?_,oN,(λhh=>by cases hh),(λhh=>by cases hh)⟩ (S LP HP hL hH);intro g' hh;rw[hg]at hh;cases hh;exact⟨d,vg,hd,T d vg rD,hw.symm⟩
end Go.Ae
namespace Go.Ae
open Go
variable {P:Program} {c:CV}
theorem qZC (hc:xu P c) {o:Oper} {r:Operand→Option AV} {h h':AH} {v:AV} {m:Mp} {D:Nat→Prop} {w:World} (hr:∀x v,r x=some v→bm D v) (RR:Rel P m D h w)
  (e:ch P c o.op r h=some (v,h')):∃m' D' w',Ext m D h w m' D' h' w'∧Rel P m' D' h' w'∧bm D' v:=by
 let ρ:Operand→Value:=λx=>match r x with |some v=>cv m v |none=>undef
 have hρ:dP m D ρ r:=λx u hu=>⟨by simp only[ρ,hu],hr x u hu⟩;by_cases hv:∃cl f,o.op=.call cl∧cl.callee=.value f
 ·obtain⟨cl,f,ho,im⟩:=hv;unfold ch at e;rw[ho]at e;simp only[bh,im,qC]at e;obtain⟨vf,sy,va,rC,e⟩:=e;obtain⟨f1,f2⟩:=hρ _ _ sy;obtain⟨v1,v2⟩:=kb hρ rC;rw[QQ]at e
  split at e
  ·rename_i q hq;simp only[Option.some.injEq,Prod.mk.injEq]at e;obtain⟨rfl,rfl⟩:=e;have dv:=hc vf va h q hq m D w RR f2 v2;cases vf<;>simp only[Ns]at dv
   case fn f' first cap=>obtain⟨e,w',fr,hR,_⟩:=(dv.2 0).2 [] (room_wide _);obtain⟨m',D',_,hx,eX,hd⟩:=hR;exact⟨m',D',w',hx,eX,hd⟩
   case yield l=>obtain⟨f',tmps,assign,body,k1,k2⟩:=dv;obtain⟨e,w',hR,_⟩:=(k2 0).2 default [] (room_wide _);obtain⟨m',D',_,hx,eX,hd⟩:=hR;exact⟨m',D',w',hx,eX,hd⟩
  ·cases e
 ·have A9:∀cl f,o.op=.call cl→cl.callee≠.value f:=λcl f h1 h2=>hv ⟨cl,f,h1,h2⟩;by_cases hi:∃cl x name,o.op=.call cl∧cl.callee=.invoke x name
  ·obtain⟨cl,x,name,ho,im⟩:=hi;unfold ch at e;rw[ho]at e;simp only[bh,im,qC]at e;obtain⟨vx,tD,va,rC,e⟩:=e;obtain⟨f1,f2⟩:=hρ _ _ tD;obtain⟨v1,v2⟩:=kb hρ rC;unfold yj at e
   split at e
   ·rename_i t y;cases hf:KJ (Nm P name) t with
    |none=>rw[hf]at e;cases e
    |some f=>
     rw[hf]at e;simp only[QQ]at e
     split at e
     ·rename_i q hq;simp only[Option.some.injEq,Prod.mk.injEq]at e;obtain⟨rfl,rfl⟩:=e;have dv:=hc (.fn f [] []) (y::va) h q hq m D w RR ⟨trivial,trivial⟩ ⟨f2,v2⟩;obtain⟨e,w',fr,hR,_⟩:=(dv.2 0).2 [] (room_wide _);obtain⟨m',D',_,hx,eX,hd⟩:=hR;exact⟨m',D',w',hx,eX,hd⟩
     ·cases e
   ·cases e
  have fH:∀cl x n,o.op=.call cl→cl.callee≠.invoke x n:=λcl x n h1 h2=>hi ⟨cl,x,n,h1,h2⟩;obtain⟨m',D',w',_,ex,re,hd⟩:=I7 (o:=o) A9 fH hρ RR e;exact⟨m',D',w',ex,re,hd⟩
def Dg (D:Nat→Prop) (H:Nat→AH) (i:Nat):Nat→Prop:=λb=>D b∨((H 0).nx≤b∧b<(H i).nx)
theorem Ext.oO {m m':Mp} {D D':Nat→Prop} {h h':AH} {w w':World} (e:Ext m D h w m' D' h' w'):D'=λb=>D b∨(h.nx≤b∧b<h'.nx):=funext λb=>propext (e.dm b)
structure Gh (P:Program) (D:Nat→Prop) (H:Nat→AH) (F:Nat→Nat→Option AV) (i:Nat):Prop where
  nx:(H 0).nx≤(H i).nx
  un:∀b,b<(H 0).nx→¬D b→(H i).get b=(H 0).get b
  bp:∀b,Dg D H i b→∃x,(H i).get b=some x∧cq (Dg D H i) x
  slot:∀t v,F i t=some v→bm (Dg D H i) v
  ni:∀b t,Dg D H i b→(H i).get b=some (.cI t)→D b∧(H 0).get b=some (.cI t)
theorem qvf {D:Nat→Prop} {F:Nat→Option AV} (hF:∀t v,F t=some v→bm D v):∀x v,dT F x=some v→bm D v:=by
 intro x v e;cases x with
 |tmp t=>exact hF t v e
 |const k=>exact(QR (m:=λ_=>(0,0)) (D:=D) e).2
 |global g=>cases e
 |func f=>cases e;exact⟨trivial,trivial⟩
theorem ZL (hc:xu P c) {n:Nat} {ops:Array Oper} {LP:JH→Prop} {HP:Qi→Prop} {F:Nat→Nat→Option AV} {H:Nat→AH} {V:Nat→AV} {W:Nat→Bool}
  (T:Tr P c n ops LP HP F H V W) {m:Mp} {D:Nat→Prop} {w:World} (RR:Rel P m D (H 0) w) (h0:∀t v,F 0 t=some v→bm D v) :
  ∀i,i≤ops.size→(∃m' w',Ext m D (H 0) w m' (Dg D H i) (H i) w'∧Rel P m' (Dg D H i) (H i) w'∧∀t v,F i t=some v→bm (Dg D H i) v)∧(∀j,j<i→(H j).nx≤(H (j+1)).nx∧bm (Dg D H (j+1)) (V j)):=by
 intro i
 induction i with
 |zero=>intro _;have hD:Dg D H 0=D:=funext λb=>propext ⟨λh=>h.elim id λh=>by omega,.inl⟩;rw[hD];exact⟨⟨m,w,Ext.refl ..,RR,h0⟩,λj hj=>by omega⟩
 |succ i ih=>
  intro hi;obtain⟨⟨m1,w1,X1,R1,s1⟩,hb⟩:=ih omQ;obtain⟨o,ho⟩:∃o,ops[i]? =some o:=⟨_,Array.getElem?_eq_getElem omQ⟩;obtain⟨st,hF⟩:=T.step i o ho;have key:∃m' w',Ext m1 (Dg D H i) (H i) w1 m' (Dg D H (i+1)) (H (i+1)) w'∧Rel P m' (Dg D H (i+1)) (H (i+1)) w'∧bm (Dg D H (i+1)) (V i):=by
   cases hw:W i with
   |true=>
    obtain⟨m',D',w',X,R',hv⟩:=qZC hc (o:=o) (qvf s1) R1 (st.yes hw);have hD:D'=Dg D H (i+1):=by
     rw[X.oO];have:=X1.nx;have:=X.nx
     funext b
     simp only[Dg,eq_iff_iff];constructor
     ·rintro((h |h) |h)
      ·exact .inl h
      ·exact .inr ⟨h.1,by omega⟩
      ·exact .inr ⟨by omega,h.2⟩
     ·rintro(h |h)
      ·exact .inl (.inl h)
      ·by_cases hx:b<(H i).nx
       ·exact .inl (.inr ⟨h.1,hx⟩)
       ·exact .inr ⟨by omega,h.2⟩
    subst hD;exact⟨m',w',X,R',hv⟩
   |false=>
    obtain⟨e1,e2⟩:=st.no hw;have hD:Dg D H (i+1)=Dg D H i:=by unfold Dg;rw[e2]
    rw[hD,e2,e1];exact⟨m1,w1,Ext.refl ..,R1,trivial⟩
  obtain⟨m2,w2,X2,R2,hv⟩:=key;refine⟨⟨m2,w2,X1.trans X2,R2,?_⟩,?_⟩
  ·intro t v ht;rw[hF]at ht;unfold ma at ht
   split at ht
   ·cases ht;exact hv
   ·exact X2.bm (s1 t v ht)
  ·intro j hj;by_cases E0:j=i
   ·subst E0;exact⟨X2.nx,hv⟩
   ·exact hb j omQ
theorem qWB (hc:xu P c) {n:Nat} {ops:Array Oper} {LP:JH→Prop} {HP:Qi→Prop} {F:Nat→Nat→Option AV} {H:Nat→AH} {V:Nat→AV} {W:Nat→Bool}
  (T:Tr P c n ops LP HP F H V W) {m:Mp} {D:Nat→Prop} {w:World} (RR:Rel P m D (H 0) w) (h0:∀t v,F 0 t=some v→bm D v) {i:Nat} (hi:i≤ops.size):Gh P D H F i:=by
 obtain⟨⟨m',w',X,R',s⟩,_⟩:=ZL hc T RR h0 i hi;refine⟨X.nx,λb hb hn=>(X.un b hb hn).1,?_,s,X.ni⟩;intro b hb;obtain⟨x,hx,_,hd⟩:=R'.bp b hb;exact⟨x,hx,hd⟩
end Go.Ae
