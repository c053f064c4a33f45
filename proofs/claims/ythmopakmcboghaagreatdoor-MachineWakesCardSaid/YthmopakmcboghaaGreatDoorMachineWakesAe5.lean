/- The abstract executor of the program's form in Lean, shown sound: regions that draw their order: what an operation looks at; the walk in the text's order. -/
import Derived.Test.YthmopakmcboghaaGreatDoorMachineWakesAe4
namespace Go.Ae
open Go
variable {P:Program} {c:CV} {r r':Operand→Option AV} {h h':AH} {v:AV}
theorem gp {l:List Operand} (hr:∀x∈l,r x=r' x):gY r l=gY r' l:=by
 induction l with
 |nil=>rfl
 |cons a l ih=>simp only[gY,hr a (iK ..),ih λx hx=>hr x (iX _ hx)]
theorem XC {pl:Nat→Option (Nat×Nat)} {l:List (Nat×Operand)} (hr:∀x∈l.map (·.2),r x=r' x):xi pl r l=xi pl r' l:=by
 induction l with
 |nil=>rfl
 |cons a l ih=>obtain⟨i,x⟩:=a;simp only[xi,hr x aN,ih λx hx=>hr x (by simp at hx ⊢;exact .inr hx)]
theorem Ux {x:Option Operand} (hr:∀y∈x,r y=r' y):Xi r x=Xi r' x:=by
 cases x with
 |none=>rfl
 |some x=>simp only[Xi,hr x rfl]
theorem qZ1 {o:Op} {k:AV→AH→R} (hr:∀x∈o.operands,r x=r' x):aX P c o r h k=aX P c o r' h k:=by
 cases o with
 |call cl=>
  have ha:∀x∈cl.args.toList,r x=r' x:=λx hx=>hr x (by simp only[Op.operands,Call.operands];simp at hx ⊢;exact .inr hx);cases hc:cl.callee with
  |value f=>have hf:r f=r' f:=hr f (by simp[Op.operands,Call.operands,hc]);simp only[aX,hc,hf,gp ha]
  |invoke x name=>have hx:r x=r' x:=hr x (by simp[Op.operands,Call.operands,hc]);simp only[aX,hc,hx,gp ha]
  |builtin b=>
   cases b<;>simp only[aX,hc]
   case len=>
    generalize cl.argTypes.toList=ts at*;revert ha;generalize cl.args.toList=xs;intro ha;rcases xs with _ |⟨x,xs⟩<;>rcases ts with _ |⟨t,ts⟩<;>simp only[]
    rw[ha x (iK ..)]
   case min=>rw[gp ha]
   case max=>rw[gp ha]
   case append=>
    generalize cl.argTypes.toList=ts at*;revert ha;generalize cl.args.toList=xs;intro ha;rcases xs with _ |⟨s,_ |⟨x,_ |⟨y,xs⟩⟩⟩<;>rcases ts with _ |⟨t,_ |⟨u,ts⟩⟩<;>simp only[]
    rw[ha s aN,ha x aN]
   case copy=>
    generalize cl.argTypes.toList=ts at*;revert ha;generalize cl.args.toList=xs;intro ha;rcases xs with _ |⟨s,_ |⟨x,_ |⟨y,xs⟩⟩⟩<;>rcases ts with _ |⟨t,ts⟩<;>simp only[]
    rw[ha s aN,ha x aN]
   case delete=>
    generalize cl.argTypes.toList=ts at*;revert ha;generalize cl.args.toList=xs;intro ha;rcases xs with _ |⟨s,_ |⟨x,_ |⟨y,xs⟩⟩⟩<;>rcases ts with _ |⟨t,ts⟩<;>simp only[]
    rw[ha s aN,ha x aN]
 |build t ps=> 
  have hp:∀pl,xi pl r ps.toList=xi pl r' ps.toList:=λpl=>XC λx hx=>hr x (by simpa[Op.operands]using hx);simp only[aX,hp]
 |buildSlice t n ps=> 
  have hp:∀pl,xi pl r ps.toList=xi pl r' ps.toList:=λpl=>XC λx hx=>hr x (by simpa[Op.operands]using hx);simp only[aX,hp]
 |makeFunc fn a cp=>have h1:gY r a.toList=gY r' a.toList:=gp λx hx=>hr x (by simp[Op.operands]at hx ⊢;exact .inl hx);have h2:gY r cp.toList=gY r' cp.toList:=gp λx hx=>hr x (by simp[Op.operands]at hx ⊢;exact .inr hx);simp only[aX,h1,h2]
 |slice t x lo hi mx=>have h1:=hr x (by simp[Op.operands]);have h2:Xi r lo=Xi r' lo:=Ux λy hy=>hr y (by simp[Op.operands];right;left;simpa using hy);have h3:Xi r hi=Xi r' hi:=Ux λy hy=>hr y (by simp[Op.operands];right;right;left;simpa using hy);simp only[aX,h1,h2,h3]
 |_=>
  simp only[aX]
  try simp only[Op.operands,List.mem_toArray,List.mem_cons,List.not_mem_nil,or_false,forall_eq_or_imp,forall_eq]at hr
  try simp only[hr]
end Go.Ae
namespace Go.Ae
open Go
variable {P:Program} {c:CV} {r:Operand→Option AV} {h h':AH} {v:AV} {o:Op}
theorem qj0 (hp:iB P o=.pure) (hc:kS P o=false) (hv:gn P o=false) (g:AH) (k:AV→AH→R):aX P c o r g k=aX P c o r h (λv _=>k v g):=by
 cases o with
 |convert s d x=>
  simp only[iB]at hp;simp only[gn]at hv;simp only[aX,XM];refine qP λv=>?_;cases hs:P.underlying s with
  |none=>rfl
  |some ds=>
   cases hd:P.underlying d with
   |none=>rfl
   |some dd=>
    rw[hs,hd]at hp hv;cases dd with
    |int k=>cases ds<;>rfl
    |string=>cases ds<;>first |rfl |(cases hv;done) |(simp only[reduceCtorEq]at hp;done)
    |slice e=>cases ds<;>first |rfl |(simp only[reduceCtorEq]at hp;done)
    |_=>first |(simp only[reduceCtorEq]at hp;done) |rfl
 |slice t x lo hi mx=>
  simp only[kS]at hc;cases mx with
  |some _=>rfl
  |none=>
   simp only[aX];refine qP λ_=>qP λ_=>qP λ_=>?_;cases hu:P.underlying t with
   |none=>rfl
   |some d=>cases d<;>first |rfl |(rw[hu]at hc;cases hc)
 |call cl=>
  simp only[iB]at hp;cases eD:cl.callee with
  |value f=>rw[eD]at hp;cases hp
  |invoke a b=>rw[eD]at hp;cases hp
  |builtin b=> 
   rw[eD]at hp;cases b
   case len=>
    simp only[aX,eD];simp only[]at hp;cases cl.args.toList with
    |nil=>rfl
    |cons x xs=>
     cases EM:cl.argTypes.toList with
     |nil=>rfl
     |cons t ts=>
      rw[EM]at hp;simp only[]at hp ⊢;refine qP λv=>?_;cases hu:P.underlying t with
      |none=>rfl
      |some d=>rw[hu]at hp;cases d<;>first |rfl |cases hp
   all_goals first |(simp only[aX,eD];done) |cases hp
 |_=>first |rfl |(simp only[iB,reduceCtorEq]at hp;done) |skip
theorem ZC (hp:iB P o=.pure) (hc:kS P o=false) (hv:gn P o=false) (e:cg P c o r h=some (v,h')):h'=h∧∀g,cg P c o r g=some (v,g):=by
 have key:∀g,cg P c o r g=some (v,g):=by intro g;unfold cg;rw[qj0 hp hc hv (h:=h),It,show cg P c o r h=some (v,h')from e];rfl
 refine⟨?_,key⟩;have:=key h;rw[e]at this;cases this;rfl
def uZ (mk:Nat→AV):Prop:=mk=(λb=>.ptr b 0)∨∃l k o,mk=λb=>.slice b 0 l k o
theorem Vy (hp:iB P o=.fresh) (e:cg P c o r h=some (v,h')):∃mk x,uZ mk∧v=mk h.nx∧h'=h.new x∧∀g,cg P c o r g=some (mk g.nx,g.new x):=by
 have box:∀(t:TypeId) (u:AV),gF h t u (λv h'=>some (v,h'))=some (v,h')→∃mk x,uZ mk∧v=mk h.nx∧h'=h.new x∧∀g,gF g t u (λv h'=>some (v,h'))=some (mk g.nx,g.new x):=by intro t u e;unfold gF at e;simp only[qs]at e;obtain⟨h1,e⟩:=e;cases e;exact⟨λb=>.ptr b 0,_,.inl rfl,rfl,rfl,λg=>by unfold gF;rw[h1];rfl⟩
 cases o with
 |alloc t=>unfold cg at e ⊢;simp only[aX,qg]at e ⊢;obtain⟨z,hz,e⟩:=e;obtain⟨mk,x,h1,h2,h3,h4⟩:=box _ _ e;exact⟨mk,x,h1,h2,h3,λg=>⟨z,hz,h4 g⟩⟩
 |box t y=>unfold cg at e ⊢;simp only[aX,qg]at e ⊢;obtain⟨z,hz,e⟩:=e;obtain⟨mk,x,h1,h2,h3,h4⟩:=box _ _ e;exact⟨mk,x,h1,h2,h3,λg=>⟨z,hz,h4 g⟩⟩
 |buildSlice t n ps=>
  unfold cg at e ⊢;simp only[aX,qg]at e ⊢;obtain⟨d,hd,e⟩:=e;cases d<;>simp only[reduceCtorEq]at e
  rename_i el;simp only[qg,jO]at e;obtain⟨z,hz,hle,vs,nE,e⟩:=e;unfold yC at e;simp only[qg,qs]at e;obtain⟨cs,ma,h1,e⟩:=e;cases e;refine⟨λb=>.slice b 0 n n false,_,.inr ⟨n,n,false,rfl⟩,rfl,rfl,λg=>⟨_,hd,?_⟩⟩;simp only[qg,jO];refine⟨z,hz,hle,vs,nE,?_⟩;unfold yC;simp only[qg,qs];exact⟨cs,ma,h1,rfl⟩
 |makeSlice t a b=>
  unfold cg at e ⊢;simp only[aX,qg]at e ⊢;obtain⟨d,hd,e⟩:=e;cases d<;>simp only[reduceCtorEq]at e
  rename_i el;simp only[qg]at e;obtain⟨z,hz,va,rL,vb,hvb,e⟩:=e;unfold kr at e
  split at e
  rotate_left
  ·cases e
  rename_i k1 ln k2 cp;simp only[qs]at e;obtain⟨h1,e⟩:=e;cases e;refine⟨λb=>.slice b 0 ln cp false,_,.inr ⟨ln,cp,false,rfl⟩,rfl,rfl,λg=>⟨_,hd,?_⟩⟩;simp only[qg];refine⟨z,hz,_,rL,_,hvb,?_⟩;unfold kr;simp only[qs];exact⟨h1,by trivial⟩
 |convert s d x=>
  simp only[iB]at hp
  split at hp
  ·cases hp
  ·split at hp<;>cases hp
  ·rename_i el hd
   split at hp
   rotate_left
   ·cases hp
   rename_i hs;unfold cg at e ⊢;simp only[aX,XM,hs,hd,qg,Option.some.injEq,exists_eq_left']at e ⊢;obtain⟨u,hu,de,sF,e⟩:=e;cases de<;>first |(cases e;done) |skip
   rename_i k;cases k<;>first |(cases e;done) |skip
   simp only[qg,jO]at e;obtain⟨sz,bw,h1,e⟩:=e;unfold Gn at e
   split at e
   rotate_left
   ·cases e
   rename_i s;simp only[qs]at e;obtain⟨h2,e⟩:=e;cases e;refine⟨λb=>.slice b 0 s.length 0 true,_,.inr ⟨s.length,0,true,rfl⟩,rfl,rfl,λg=>⟨_,hu,_,sF,?_⟩⟩;simp only[qg,jO];refine⟨sz,bw,h1,?_⟩;unfold Gn;simp only[qs];exact⟨h2,by trivial⟩
  ·cases hp
 |call cl=>
  simp only[iB]at hp;cases eD:cl.callee with
  |value f=>rw[eD]at hp;cases hp
  |invoke a b=>rw[eD]at hp;cases hp
  |builtin b=>
   rw[eD]at hp;cases b<;>first |(cases hp;done) |skip
   simp only[]at hp
   split at hp
   ·split at hp<;>cases hp
   ·cases hp
 |_=>simp only[iB,reduceCtorEq]at hp
theorem Bq {a b:Int} (h:lm a b=true):a=b:=by rw[Uw]at h;simpa using h
theorem Br {a b:List UInt8} (h:fO a b=true):a=b:=by rw[fI]at h;simpa using h
mutual
theorem GK:∀{a b:AV},yu a b=true→a=b
 | .bool a,.bool b,h=>by simp only[yu,beq_iff_eq]at h;rw[h]
 | .int k a,.int k' b,h=>by simp only[yu,Bool.and_eq_true,beq_iff_eq]at h;rw[h.1,Bq h.2]
 | .str a,.str b,h=>by simp only[yu]at h;rw[Br h]
 | .ptr b o,.ptr b' o',h=>by simp only[yu,Bool.and_eq_true]at h;rw[jd h.1,jd h.2]
 | .aP,.aP,_=>rfl
 | .slice b o l c p,.slice b' o' l' c' p',h=>by simp only[yu,Bool.and_eq_true,beq_iff_eq]at h;rw[jd h.1,jd h.2.1,jd h.2.2.1,jd h.2.2.2.1,h.2.2.2.2]
 | .ak,.ak,_=>rfl
 | .fn f a c,.fn f' a' c',h=>by simp only[yu,Bool.and_eq_true]at h;rw[jd h.1,Yz h.2.1,Yz h.2.2]
 | .yield l,.yield l',h=>by simp only[yu]at h;rw[jd h]
 | .dG,.dG,_=>rfl
 | .iface t v,.iface t' v',h=>by simp only[yu,Bool.and_eq_true]at h;rw[jd h.1,GK h.2]
 | .cH,.cH,_=>rfl
 | .agg l,.agg l',h=>by simp only[yu]at h;rw[Yz h]
 | .bJ l,.bJ l',h=>by simp only[yu]at h;rw[Yz h]
 | .bU a,.bU a',h=>by simp only[yu,decide_eq_true_eq]at h;rw[h]
 | .tail b o o' i,.tail b' p p' j,h=>by simp only[yu,Bool.and_eq_true]at h;rw[jd h.1,jd h.2.1,jd h.2.2.1,jd h.2.2.2]
 | .cI b,.cI b',h=>by simp only[yu]at h;rw[jd h]
theorem Yz:∀{a b:List AV},YH a b=true→a=b
 |[],[],_=>rfl
 |a::r,b::s,h=>by simp only[YH,Bool.and_eq_true]at h;rw[GK h.1,Yz h.2]
end
end Go.Ae
namespace Go.Ae
open Go
variable {P:Program} {c:CV} {r:Operand→Option AV} {h h':AH} {v:AV} {o:Op}
theorem UR {t:TypeId} {x:Operand} (e:cg P c (.load t x) r h=some (v,h')):h'=h∧∃b off,r x=some (.ptr b off)∧
  (∀g,g.get b=h.get b→cg P c (.load t x) r g=some (v,g))∧(∀g,zi (.ptr b off) (gX P (.load t x)) v g=true→cg P c (.load t x) r g=some (v,g)):=by
 unfold cg at e;simp only[aX,qg]at e;obtain⟨a,ha,i,hi,e⟩:=e;have hn:gX P (.load t x)=i:=by simp only[gX,hi]
 rw[hn];cases i with
 |none=>
  simp only[y5]at e
  split at e
  rotate_left
  ·cases e
  rename_i b off;have hz:∃z,(∀g,g.get b=h.get b→jB g (.ptr b off) (λz=>some (z,g))=some (z,g))∧(v,h')=(z,h):=by
   split at e
   ·rename_i cs t' op hg;simp only[qg]at e;obtain⟨z,hz,e⟩:=e;cases e;exact⟨_,λg tN=>by simp only[y5,tN,hg,hz],rfl⟩
   ·rename_i ti hg;simp only[qg]at e;obtain⟨z,hz,e⟩:=e;cases e;exact⟨_,λg tN=>by simp only[y5,tN,hg,hz],rfl⟩
   ·cases e
  obtain⟨z,hz,e⟩:=hz;cases e;refine⟨rfl,b,off,ha,?_,?_⟩
  ·intro g tN;unfold cg;simp only[aX,qg];exact⟨_,ha,_,hi,hz g tN⟩
  ·intro g hl;unfold cg;simp only[aX,qg];refine⟨_,ha,_,hi,?_⟩;simp only[zi]at hl
   split at hl
   ·rename_i D5 t2 op2 tO
    split at hl
    ·rename_i y hy;have:=GK hl;subst this;simp only[y5,tO,qg];exact⟨_,hy,rfl⟩
    ·cases hl
   ·rename_i ti tO
    split at hl
    ·rename_i y hy;have:=GK hl;subst this;simp only[y5,tO,qg];exact⟨_,hy,rfl⟩
    ·cases hl
   ·cases hl
 |some n=>
  simp only[gt]at e
  split at e
  rotate_left
  ·cases e
  rename_i b off;simp only[qg]at e;obtain⟨z,hz,e⟩:=e;cases e;refine⟨rfl,b,off,ha,?_,?_⟩
  ·intro g tN;unfold cg;simp only[aX,qg];refine⟨_,ha,_,hi,?_⟩;simp only[gt,qg];refine⟨z,?_,rfl⟩;unfold yJ at hz ⊢;rw[tN];exact hz
  ·intro g hl;unfold cg;simp only[aX,qg];refine⟨_,ha,_,hi,?_⟩;simp only[gt,qg];simp only[zi]at hl
   split at hl
   ·rename_i D5 t2 op2 tO
    split at hl
    ·rename_i y hy;have:=GK hl;cases this;refine⟨_,?_,rfl⟩;unfold yJ;rw[tO];exact hy
    ·cases hl
   ·rename_i ti tO
    split at hl
    ·rename_i y hy;have:=GK hl;cases this;refine⟨_,?_,rfl⟩;unfold yJ;rw[tO];exact hy
    ·cases hl
   ·cases hl
theorem Ju (hl:KO o=true):∃t x,o=.load t x:=by
 cases o<;>first |exact⟨_,_,rfl⟩ |cases hl
theorem Ma (a b:Nat) (h:b+1≤65536):(a*65536+b)/65536=a∧(a*65536+b)%65536=b:=by omega
theorem MH (hc:kS P o=true) (e:cg P c o r h=some (v,h')):h'=h∧∃x∈o.operands,∃u,r x=some u∧JZ r o=some u∧
  (∀g,(∀b off l i,u=.slice b off l i true→g.get b=h.get b)→cg P c o r g=some (v,g))∧(∀g,zi u (gX P o) v g=true→cg P c o r g=some (v,g)):=by
 cases o<;>try (cases hc;done)
 rename_i t x lo hi mx;unfold cg at e;cases mx with
 |some _=>cases e
 |none=>
  simp only[aX,qg]at e;obtain⟨u,hu,l,hl,q,hq,d,hd,e⟩:=e;cases d<;>first |(simp only[reduceCtorEq]at e;done) |skip
  case string=>simp only[kS,hd]at hc;cases hc
  case array n el=>simp only[kS,hd]at hc;cases hc
  case slice el=>
   simp only[qg]at e;obtain⟨sz,bw,e⟩:=e;have key:∀g:AH,(∀b off l i,u=.slice b off l i true→g.get b=h.get b)→yQ g el sz u l q (λz=>some (z,g))=ch (yQ h el sz u l q (λz=>some (z,h))) (λv _=>some (v,g)):=by
    intro g hg;rw[NS];unfold yQ
    split
    ·rfl
    ·rename_i b off len i0;have:yL g el b off sz i0 len=yL h el b off sz i0 len:=by unfold yL;rw[hg b off len i0 rfl]
     rw[this]
    ·rfl
    ·rfl
    ·rfl
   have Bs:∀g:AH,(∀b off l i,u=.slice b off l i true→g.get b=h.get b)→cg P c (.slice t x lo hi none) r g=some (v,g):=by intro g hg;unfold cg;simp only[aX,qg];refine⟨u,hu,l,hl,q,hq,_,hd,?_⟩;simp only[qg];refine⟨sz,bw,?_⟩;rw[key g hg,e];rfl
   have EN:∀g:AH,zi u (gX P (.slice t x lo hi none)) v g=true→cg P c (.slice t x lo hi none) r g=some (v,g):=by
    intro g hg;unfold cg;simp only[aX,qg];refine⟨u,hu,l,hl,q,hq,_,hd,?_⟩;simp only[qg];refine⟨sz,bw,?_⟩;have e0:yQ g el sz u l q (λz=>some (z,g))=ch (yQ h el sz u l q (λz=>some (z,h))) (λv _=>some (v,g)):=by
     rw[NS];unfold yQ at e ⊢
     split at e
     ·rfl
     ·rename_i b off len i0;simp only[gX,hd,bw]at hg;cases hb:Nat.ble (sz+1) 65536
      ·rw[hb]at hg;cases hg
      ·rw[hb]at hg;simp only[cond_true,zi]at hg;have h1:=vk hb;rw[(Ma el sz h1).1,(Ma el sz h1).2]at hg;cases hf:yL h el b off sz i0 len
       ·rw[hf]at e;cases e
       ·simp only[hg]
     ·rfl
     ·rfl
     ·rfl
    rw[e0,e];rfl
   refine⟨?_,x,by simp[Op.operands],u,hu,hu,Bs,EN⟩;have:=Bs h (λ_ _ _ _ _=>rfl);have e2:cg P c (.slice t x lo hi none) r h=some (v,h'):=by unfold cg;simp only[aX,qg];refine⟨u,hu,l,hl,q,hq,_,hd,?_⟩;simp only[qg];exact⟨sz,bw,e⟩
   rw[e2]at this;cases this;rfl
theorem qZu {s:List UInt8} (hc:kS P o=true) (e:cg P c o r h=some (.str s,h')):False:=by
 cases o<;>try (cases hc;done)
 rename_i t x lo hi mx;unfold cg at e;cases mx with
 |some _=>cases e
 |none=>
  simp only[aX,qg]at e;obtain⟨u,hu,l,hl,q,hq,d,hd,e⟩:=e;cases d<;>first |(simp only[reduceCtorEq]at e;done) |skip
  case string=>simp only[kS,hd]at hc;cases hc
  case array n el=>simp only[kS,hd]at hc;cases hc
  case slice el=>
   simp only[qg]at e;obtain⟨sz,bw,e⟩:=e;unfold yQ at e
   split at e
   ·simp only[qg]at e;obtain⟨_,_,_,_,e⟩:=e;cases e
   ·simp only[qs,qg]at e;obtain⟨_,_,_,k,_,e⟩:=e;cases h1:Nat.beq k 0<;>rw[h1]at e
    ·simp only[cond_false]at e;rename_i len _ _ _ _ _;cases h2:Nat.ble (k+1) len<;>rw[h2]at e<;>cases e
    ·cases e
   ·simp only[qg]at e;obtain⟨_,_,_,_,e⟩:=e;cases e
   ·simp only[qg]at e;obtain⟨_,_,_,_,e⟩:=e;cases e
   ·cases e
theorem UB (hc:gn P o=true) (e:cg P c o r h=some (v,h')):h'=h∧gX P o=none∧(∃s,v=.str s)∧∃x∈o.operands,∃u,r x=some u∧JZ r o=some u∧
  ∀g,(∀b off l i p,u=.slice b off l i p→g.get b=h.get b)→cg P c o r g=some (v,g):=by
 cases o<;>try (cases hc;done)
 rename_i s d x;simp only[gn]at hc
 split at hc
 rotate_left
 ·cases hc
 rename_i hd
 split at hc
 rotate_left
 ·cases hc
 rename_i el hs;unfold cg at e;simp only[aX,XM,hs,hd,qg,Option.some.injEq,exists_eq_left']at e;obtain⟨u,hu,de,sF,e⟩:=e;cases de<;>first |(cases e;done) |skip
 rename_i k;cases k<;>first |(cases e;done) |skip
 replace e:Xx h u (λz=>some (z,h))=some (v,h'):=e
 have key:∀g,(∀b off l i p,u=.slice b off l i p→g.get b=h.get b)→(∃s,v=.str s)∧h'=h∧cg P c (.convert s d x) r g=some (v,g):=by
  intro g hg;have go:∀z,Xx g u (λy=>some (y,g))=some (z,g)→cg P c (.convert s d x) r g=some (z,g):=λz hz=>by
   unfold cg;simp only[aX,XM,hs,hd,qg,Option.some.injEq,exists_eq_left'];exact⟨u,hu,_,sF,hz⟩
  unfold Xx at e
  split at e
  ·cases e;exact⟨⟨_,rfl⟩,rfl,go _ rfl⟩
  ·rename_i b off len i p;simp only[qg]at e;obtain⟨cs,ma,t,ht,e⟩:=e;cases e;refine⟨⟨_,rfl⟩,rfl,go _ ?_⟩;unfold Xx;simp only[qg];refine⟨cs,?_,t,ht,rfl⟩;unfold yJ at ma ⊢;rw[hg _ _ _ _ _ rfl];exact ma
  ·cases e
 obtain⟨k1,k2,_⟩:=key h (λ_ _ _ _ _ _=>rfl);exact⟨k2,rfl,k1,x,by simp[Op.operands],u,hu,hu,λg hg=>(key g hg).2.2⟩
theorem qz6 (hl:gn P o=true):∃s d x,o=.convert s d x:=by
 cases o<;>first |exact⟨_,_,_,rfl⟩ |cases hl
theorem IE (hl:gn P o=true):zq P o=false:=by
 obtain⟨s,d,x,rfl⟩:=qz6 hl;simp only[gn]at hl
 split at hl
 ·rename_i hd
  split at hl
  ·rename_i el hs;simp only[zq,iB,hd,hs]
  ·cases hl
 ·cases hl
theorem qq7 (l:List Nat) (t:Nat):(Az l).testBit t=l.any λa=>a.testBit t:=by
 induction l with
 |nil=>simp[Az]
 |cons a l ih=>simp[Az,ih]
theorem MM (t s:Nat):(bit t).testBit s=decide (t=s):=by unfold bit;rw[Nat.testBit_two_pow]
theorem Xy {all:List Oper} {o:Oper} {t:Nat} (h:.tmp t∈o.op.operands):(looks all o).testBit t=true:=by unfold looks;rw[Nat.testBit_or,qq7];simp only[Bool.or_eq_true,List.any_eq_true,List.mem_map];exact .inl ⟨_,⟨.tmp t,by simpa using h,rfl⟩,by simp[Hz,MM]⟩
theorem Nn {all:List Oper} {o:Oper} {g:Nat×Bool} {d:Nat} (hg:o.guard=some g) (hd:wM all o=some d):(looks all o).testBit d=true:=by unfold looks;rw[Nat.testBit_or,hg];simp[hd,MM]
theorem Qu (o:Oper) (t:Nat):(Q2 o).testBit t=decide (o.dst=some t):=by
 unfold Q2;cases o.dst with
 |none=>simp
 |some d=>simp[MM]
theorem KA {a b:Nat} (h:Nat.beq (a&&&b) 0=true) (t:Nat) (ha:a.testBit t=true):b.testBit t=false:=by have h:=jd h;have:=congrArg (λx=>x.testBit t) h;simp only[Nat.testBit_and,Nat.zero_testBit,ha,Bool.true_and]at this;exact this
end Go.Ae
namespace Go.Ae
open Go
variable {P:Program}
def Gp (e:Edge):Bool:=Region.binds .any e
theorem JV {j:Nat} {l:List Edge} (h:w5 j l=true):∀e∈l,Gp e=true→e.on<j:=by
 induction l with
 |nil=>intro e he;cases he
 |cons a l ih=>
  simp only[w5,Bool.and_eq_true]at h;intro e he hb;rcases List.mem_cons.1 he with rfl |he
  ·have h1:=h.1;unfold Gp at hb;rw[hb]at h1;exact jf h1
  ·exact ih h.2 e he hb
def G1 (mk wj lj:Nat) (e:AA):Prop:=mk.testBit e.i=true∨(Nat.beq (e.w&&&(lj|||wj)) 0=true∧Nat.beq (wj&&&e.l) 0=true)
theorem ZG {mk wj lj:Nat} {l:List AA} (h:Nq mk wj lj l=true):∀e∈l,G1 mk wj lj e:=by
 induction l with
 |nil=>intro e he;cases he
 |cons a l ih=>
  simp only[Nq,Bool.and_eq_true,Bool.or_eq_true]at h;intro e he;rcases List.mem_cons.1 he with rfl |he
  ·exact h.1
  ·exact ih h.2 e he
theorem qKD {t:PT Nat} {all:List Oper}:∀(l:List Oper) (j:Nat) (es:List AA),rE t all l j es=true→∀k o,l[k]? =some o→w5 (j+k) o.after.toList=true∧
  (∀e∈es,G1 (zH t (j+k)) (Q2 o) (looks all o) e)∧∀i oi,i<k→l[i]? =some oi→G1 (zH t (j+k)) (Q2 o) (looks all o) ⟨j+i,Q2 oi,looks all oi⟩:=by
 intro l
 induction l with
 |nil=>intro j es _ k o hk;simp at hk
 |cons a l ih=>
  intro j es h k o hk;simp only[rE,Bool.and_eq_true]at h;obtain⟨h1,h2,h3⟩:=h;cases k with
  |zero=>simp at hk;subst hk;exact⟨h1,ZG h2,λi oi hi=>by omega⟩
  |succ k=>
   simp at hk;obtain⟨g1,g2,g3⟩:=ih (j+1) _ h3 k o hk;rw[show j+1+k=j+(k+1) by omega]at g1 g2 g3;refine⟨g1,λe he=>g2 e (iX _ he),?_⟩;intro i oi hi iD;cases i with
   |zero=>simp at iD;subst iD;exact g2 _ (iK ..)
   |succ i=>
    simp at iD;have:=g3 i oi omQ iD
    rwa [show j+1+i=j+(i+1) by omega]at this
theorem ZI:∀(l:List Oper) (j:Nat) (t:PT Nat) (i:Nat),i<j→(gB l j t).get i=t.get i:=by
 intro l
 induction l with
 |nil=>intro j t i _;rfl
 |cons a l ih=>intro j t i hi;simp only[gB];rw[ih _ _ _ omQ,PT.bE,iQ omQ]
theorem Z3:∀(l:List Oper) (j:Nat) (t:PT Nat) (k:Nat) (o:Oper),l[k]? =some o→∃T:PT Nat,(∀i,i<j+k→(gB l j t).get i=T.get i)∧
  (gB l j t).get (j+k)=some (o.after.toList.foldl (λs e=>bif Region.binds .any e then s|||(2 ^ e.on|||zH T e.on)else s) 0):=by
 intro l
 induction l with
 |nil=>intro j t k o hk;simp at hk
 |cons a l ih=>
  intro j t k o hk;cases k with
  |zero=>
   simp at hk;subst hk;refine⟨t,?_,?_⟩
   ·intro i hi;simp only[gB];rw[ZI _ _ _ _ omQ,PT.bE,iQ omQ]
   ·simp only[gB,Nat.add_zero];rw[ZI _ _ _ _ omQ,PT.bE,iJ rfl];rfl
  |succ k=>simp at hk;obtain⟨T,h1,h2⟩:=ih (j+1) _ k o hk;rw[show j+1+k=j+(k+1) by omega]at h1 h2;exact⟨T,h1,h2⟩
theorem qX6 {T:PT Nat} {k:Nat}:∀(l:List Edge) (s:Nat),(l.foldl (λs e=>bif Region.binds .any e then s|||(2 ^ e.on|||zH T e.on)else s) s).testBit k=true→
  s.testBit k=true∨∃e∈l,Gp e=true∧(k=e.on∨(zH T e.on).testBit k=true):=by
 intro l
 induction l with
 |nil=>intro s h;exact .inl h
 |cons a l ih=>
  intro s h;simp only[List.foldl_cons]at h;rcases ih _ h with h |⟨e,he,hb,hk⟩
  ·cases hb:Region.binds .any a
   ·rw[hb]at h;exact .inl h
   ·rw[hb]at h;simp only[cond_true,Nat.testBit_or,Bool.or_eq_true,Nat.testBit_two_pow,decide_eq_true_eq]at h;rcases h with h |h |h
    ·exact .inl h
    ·exact .inr ⟨a,iK ..,hb,.inl h.symm⟩
    ·exact .inr ⟨a,iK ..,hb,.inr h⟩
  ·exact .inr ⟨e,iX _ he,hb,hk⟩
theorem qWt {ops:Array Oper} {i k:Nat} {o:Oper} (ho:ops[i]? =some o) (hb:w5 i o.after.toList=true) (h:(zH (gB ops.toList 0 .e) i).testBit k=true) :
  ∃e∈o.after,Gp e=true∧e.on<i∧(k=e.on∨(zH (gB ops.toList 0 .e) e.on).testBit k=true):=by
 obtain⟨T,h1,h2⟩:=Z3 ops.toList 0 .e i o (by simpa using ho);simp only[Nat.zero_add]at h1 h2;unfold zH at h;rw[h2]at h;simp only[]at h;rcases qX6 _ _ h with h |⟨e,he,u4,hk⟩
 ·simp at h
 ·have ap:=JV hb e he u4;have:zH (gB ops.toList 0 .e) e.on=zH T e.on:=by unfold zH;rw[h1 _ ap]
  exact⟨e,by simpa using he,u4,ap,by rw[this];exact hk⟩
theorem qQB {t:PT Nat} {s:Nat→Prop} (hs:∀a b,s a→(zH t a).testBit b=true→s b):∀(l:List Oper) (j:Nat) (last:Option Nat),chain P t l j last=true→
  ∀k o,l[k]? =some o→zq P o.op=true→s (j+k)→(∀i,last=some i→s i)∧∀i oi,i<k→l[i]? =some oi→zq P oi.op=true→s (j+i):=by
 intro l
 induction l with
 |nil=>intro j last _ k o hk;simp at hk
 |cons a l ih=>
  intro j last h k o hk hh mB;simp only[chain]at h;cases ha:zq P a.op
  ·rw[ha]at h;cases k with
   |zero=>simp at hk;subst hk;rw[ha]at hh;cases hh
   |succ k=>
    simp at hk;rw[show j+(k+1)=j+1+k by omega]at mB;obtain⟨g1,g2⟩:=ih (j+1) last h k o hk hh mB;refine⟨g1,?_⟩;intro i oi hi iD iN;cases i with
    |zero=>simp at iD;subst iD;rw[ha]at iN;cases iN
    |succ i=>
     simp at iD;have:=g2 i oi omQ iD iN
     rwa [show j+1+i=j+(i+1) by omega]at this
  ·rw[ha]at h;simp only[cond_true,Bool.and_eq_true]at h;obtain⟨h1,h2⟩:=h;have bN:s j→∀i,last=some i→s i:=by
    intro hj i hi;subst hi;exact hs j i hj h1
   cases k with
   |zero=>exact⟨bN mB,λi oi hi=>by omega⟩
   |succ k=>
    simp at hk;rw[show j+(k+1)=j+1+k by omega]at mB;obtain⟨g1,g2⟩:=ih (j+1) (some j) h2 k o hk hh mB;have hj:=g1 j rfl;refine⟨bN hj,?_⟩;intro i oi hi iD iN;cases i with
    |zero=>exact hj
    |succ i=>
     simp at iD;have:=g2 i oi omQ iD iN
     rwa [show j+1+i=j+(i+1) by omega]at this
theorem UM {t:PT Nat} {i:Nat}:∀(l:List Oper) (j:Nat),Jp P t i l j=false→∀k o,l[k]? =some o→zq P o.op=true→gI t i (j+k)=false:=by
 intro l
 induction l with
 |nil=>intro j _ k o hk;simp at hk
 |cons a l ih=>
  intro j h k o hk hh;simp only[Jp,Bool.or_eq_false_iff]at h;cases k with
  |zero=>simp at hk;subst hk;have:=h.1;rw[hh]at this;simpa using this
  |succ k=>
   simp at hk;have:=ih (j+1) h.2 k o hk hh
   rwa [show j+1+k=j+(k+1) by omega]at this
theorem U2 {t:PT Nat} {p:Op→Bool} {all:List Oper}:∀(l:List Oper) (i:Nat),Je P p t all l i=false→∀k o,l[k]? =some o→p o.op=true→
  ∀j oj,all[j]? =some oj→zq P oj.op=true→gI t (i+k) j=false:=by
 intro l
 induction l with
 |nil=>intro j _ k o hk;simp at hk
 |cons a l ih=>
  intro i h k o hk hp j oj hj hh;simp only[Je,Bool.or_eq_false_iff]at h;cases k with
  |zero=>simp at hk;subst hk;have h1:=h.1;rw[hp,Bool.true_and]at h1;have:=UM all 0 h1 j oj hj hh;simpa using this
  |succ k=>
   simp at hk;have:=ih (i+1) h.2 k o hk hp j oj hj hh
   rwa [show i+1+k=i+(k+1) by omega]at this
structure Stat (P:Program) (ops:Array Oper) (M:PT Nat):Prop where
  back:∀j o,ops[j]? =some o→∀e∈o.after,Gp e=true→e.on<j
  nJ:∀i o k,ops[i]? =some o→(zH M i).testBit k=true→∃e∈o.after,Gp e=true∧e.on<i∧(k=e.on∨(zH M e.on).testBit k=true)
  apart:∀i j oi oj,i<j→ops[i]? =some oi→ops[j]? =some oj→G1 (zH M j) (Q2 oj) (looks ops.toList oj) ⟨i,Q2 oi,looks ops.toList oi⟩
  chain:∀s:Nat→Prop,(∀a b,s a→(zH M a).testBit b=true→s b)→∀i j oi oj,i<j→ops[i]? =some oi→ops[j]? =some oj→zq P oi.op=true→zq P oj.op=true→s j→s i
theorem qjB {ops:Array Oper} (h:C7 P ops=true):Stat P ops (gB ops.toList 0 .e):=by
 simp only[C7,Bool.and_eq_true]at h;obtain⟨h1,h2⟩:=h;have hl:=qKD _ _ _ h1;refine⟨?_,?_,?_,?_⟩
 ·intro j o ho e he hb;have:=(hl j o (by simpa using ho)).1;rw[Nat.zero_add]at this;exact JV this e (by simpa using he) hb
 ·intro i o k ho hk;have:=(hl i o (by simpa using ho)).1;rw[Nat.zero_add]at this;exact qWt ho this hk
 ·intro i j oi oj oU hi hj;have:=(hl j oj (by simpa using hj)).2.2 i oi oU (by simpa using hi);simpa only[Nat.zero_add]using this
 ·intro s hs i j oi oj oU hi hj iN EO Bt;have:=(qQB hs _ _ _ h2 j oj (by simpa using hj) EO (by simpa using Bt)).2 i oi oU (by simpa using hi) iN;simpa using this
end Go.Ae
namespace Go.Ae
open Go
variable {P:Program} {c:CV} {r r':Operand→Option AV} {h h':AH} {v:AV}
theorem qi {α:Type} {x y:Option α} {f g:α→R} {q:AV×AH} (hx:∀v,x=some v→y=some v) (hf:∀v,x=some v→f v=some q→g v=some q) (e:ob x f=some q):ob y g=some q:=by rw[qg]at e ⊢;obtain⟨a,ha,e⟩:=e;exact⟨a,hx a ha,hf a ha e⟩
theorem qZ3 (hr:∀x v,r x=some v→r' x=some v):∀(l:List Operand) (s:List AV),gY r l=some s→gY r' l=some s:=by
 intro l
 induction l with
 |nil=>intro s e;exact e
 |cons a l ih=>intro s e;simp only[gY,Option.bind_eq_some_iff]at e ⊢;obtain⟨x,hx,t,ht,e⟩:=e;exact⟨x,hr _ _ hx,t,ih _ ht,e⟩
theorem Na (hr:∀x v,r x=some v→r' x=some v) {pl:Nat→Option (Nat×Nat)}:∀(l:List (Nat×Operand)) (s:List (Nat×Nat×AV)),xi pl r l=some s→xi pl r' l=some s:=by
 intro l
 induction l with
 |nil=>intro s e;exact e
 |cons a l ih=>intro s e;obtain⟨i,x⟩:=a;simp only[xi,Option.bind_eq_some_iff,Option.map_eq_some_iff]at e ⊢;obtain⟨p,hp,x,hx,t,ht,e⟩:=e;exact⟨p,hp,x,hr _ _ hx,t,ih _ ht,e⟩
theorem qKN (hr:∀x v,r x=some v→r' x=some v) (x:Option Operand) (s:Option AV) (e:Xi r x=some s):Xi r' x=some s:=by
 cases x with
 |none=>exact e
 |some x=>simp only[Xi,Option.map_eq_some_iff]at e ⊢;obtain⟨y,hy,e⟩:=e;exact⟨y,hr _ _ hy,e⟩
theorem K6 {o:Op} {k:AV→AH→R} {q:AV×AH} (hr:∀x v,r x=some v→r' x=some v) (e:aX P c o r h k=some q):aX P c o r' h k=some q:=by
 have m1:=qZ3 hr;have m2:=λpl=>Na hr (pl:=pl);have m3:=qKN hr;cases o with
 |call cl=>
  cases hc:cl.callee with
  |value f=>simp only[aX,hc]at e ⊢;exact qi (hr _) (λ_ _=>qi (m1 _) λ_ _ e=>e) e
  |invoke x name=>simp only[aX,hc]at e ⊢;exact qi (hr _) (λ_ _=>qi (m1 _) λ_ _ e=>e) e
  |builtin b=>
   cases b<;>simp only[aX,hc,reduceCtorEq]at e ⊢
   case len=>
    generalize cl.argTypes.toList=ts at*;generalize cl.args.toList=xs at*;rcases xs with _ |⟨x,xs⟩<;>rcases ts with _ |⟨t,ts⟩<;>simp only[reduceCtorEq]at e ⊢
    exact qi (hr _) (λ_ _ e=>e) e
   case min=>exact qi (m1 _) (λ_ _ e=>e) e
   case max=>exact qi (m1 _) (λ_ _ e=>e) e
   case append=>
    generalize cl.argTypes.toList=ts at*;generalize cl.args.toList=xs at*;rcases xs with _ |⟨s,_ |⟨x,_ |⟨y,xs⟩⟩⟩<;>rcases ts with _ |⟨t,_ |⟨u,ts⟩⟩<;>simp only[reduceCtorEq]at e ⊢
    refine qi (λ_ e=>e) (λdu _ e=>?_) e;revert e
    split
    ·intro e;exact e
    ·refine qi (λ_ e=>e) (λd _ e=>?_);revert e
     split
     ·exact qi (λ_ e=>e) (λ_ _=>qi (hr _) λ_ _=>qi (hr _) λ_ _ e=>e)
     ·intro e;exact e
   case copy=>
    generalize cl.argTypes.toList=ts at*;generalize cl.args.toList=xs at*;rcases xs with _ |⟨s,_ |⟨x,_ |⟨y,xs⟩⟩⟩<;>rcases ts with _ |⟨t,ts⟩<;>simp only[reduceCtorEq]at e ⊢
    refine qi (λ_ e=>e) (λdu _ e=>?_) e;revert e
    split
    ·exact qi (λ_ e=>e) (λ_ _=>qi (hr _) λ_ _=>qi (hr _) λ_ _ e=>e)
    ·intro e;exact e
   case delete=>
    generalize cl.argTypes.toList=ts at*;generalize cl.args.toList=xs at*;rcases xs with _ |⟨s,_ |⟨x,_ |⟨y,xs⟩⟩⟩<;>rcases ts with _ |⟨t,ts⟩<;>simp only[reduceCtorEq]at e ⊢
    rw[jO]at e ⊢;exact⟨e.1,qi (hr _) (λ_ _=>qi (hr _) λ_ _ e=>e) e.2⟩
 |build t ps=>
  simp only[aX]at e ⊢;refine qi (λ_ e=>e) (λ_ _=>qi (λ_ e=>e) λd _ e=>?_) e;revert e
  split
  ·exact qi (λ_ e=>e) (λ_ _=>qi (m2 _ _) λ_ _ e=>e)
  ·exact qi (λ_ e=>e) (λ_ _=>qi (m2 _ _) λ_ _ e=>e)
  ·intro e;exact e
 |buildSlice t n ps=>
  simp only[aX]at e ⊢;refine qi (λ_ e=>e) (λd _ e=>?_) e;revert e
  split
  ·refine qi (λ_ e=>e) (λ_ _ e=>?_);rw[jO]at e ⊢;exact⟨e.1,qi (m2 _ _) (λ_ _ e=>e) e.2⟩
  ·intro e;exact e
 |makeFunc fn a cp=>
  simp only[aX]at e ⊢;revert e
  split
  ·exact qi (m1 _) (λ_ _=>qi (m1 _) λ_ _ e=>e)
  ·intro e;exact e
 |makeInterface t x=>
  simp only[aX]at e ⊢;refine qi (λ_ e=>e) (λd _ e=>?_) e;revert e
  split
  ·intro e;exact e
  ·exact qi (hr _) λ_ _ e=>e
 |makeSlice t a b=>
  simp only[aX]at e ⊢;refine qi (λ_ e=>e) (λd _ e=>?_) e;revert e
  split
  ·exact qi (λ_ e=>e) (λ_ _=>qi (hr _) λ_ _=>qi (hr _) λ_ _ e=>e)
  ·intro e;exact e
 |slice t x lo hi mx=>
  simp only[aX]at e ⊢;revert e
  split
  ·intro e;exact e
  ·exact qi (hr _) λ_ _=>qi (m3 _) λ_ _=>qi (m3 _) λ_ _ e=>e
 |range t x=>
  simp only[aX]at e ⊢;refine qi (λ_ e=>e) (λd _ e=>?_) e;revert e
  split
  ·exact qi (hr _) λ_ _ e=>e
  ·intro e;exact e
 |makeMap t hint=>exact e
 |lookup t x i ok=>simp only[aX]at e ⊢;rw[jO]at e ⊢;exact⟨e.1,qi (hr _) (λ_ _=>qi (hr _) λ_ _ e=>e) e.2⟩
 |mapEntry t x i=>simp only[aX]at e ⊢;rw[jO]at e ⊢;exact⟨e.1,qi (hr _) (λ_ _=>qi (hr _) λ_ _ e=>e) e.2⟩
 |mapUpdate t x s y=>simp only[aX]at e ⊢;rw[jO]at e ⊢;exact⟨e.1,qi (hr _) (λ_ _=>qi (hr _) λ_ _=>qi (hr _) λ_ _ e=>e) e.2⟩
 |entryStore t x s y=>exact qi (hr _) (λ_ _=>qi (hr _) λ_ _=>qi (hr _) λ_ _ e=>e) e
 |next x b=>simp only[aX]at e ⊢;rw[jO]at e ⊢;exact⟨e.1,qi (hr _) (λ_ _ e=>e) e.2⟩
 |pick a b d=>exact qi (hr _) (λ_ _=>qi (hr _) λ_ _=>qi (hr _) λ_ _ e=>e) e
 |store t a x=>exact qi (hr _) (λ_ _=>qi (hr _) λ_ _ e=>e) e
 |binOp op t x y u=>exact qi (hr _) (λ_ _=>qi (hr _) λ_ _ e=>e) e
 |indexAddr t x i=>exact qi (hr _) (λ_ _=>qi (hr _) λ_ _ e=>e) e
 |index t x i=>exact qi (hr _) (λ_ _=>qi (hr _) λ_ _ e=>e) e
 |alloc t=>exact e
 |_=>first |exact qi (hr _) (λ_ _ e=>e) e |(simp only[aX,reduceCtorEq]at e;done)
def mf (F:Nat→Option AV) (dst:Option Tmp) (v:AV):Nat→Option AV:=λt=>if dst=some t then some v else F t
def dT (F:Nat→Option AV):Operand→Option AV
 | .tmp t=>F t
 | .const v=>Uv v
 | .global _=>none
 | .func f=>some (.fn f [] [])
def wh (tm:PT AV) (F:Nat→Option AV):Prop:=∀t v,tm.get t=some v→F t=some v
theorem Dn {tm:PT AV} {F:Nat→Option AV} (h:wh tm F):∀x v,ev tm x=some v→dT F x=some v:=by
 intro x v e;cases x with
 |tmp t=>exact h t v e
 |_=>exact e
def wT:AV→Bool→Bool
 | .bool t,w=>t==w
 |_,_=>false
structure EP (P:Program) (c:CV) (n:Nat) (ops:Array Oper) (LP:JK→Prop) (HP:QR→Prop) (i:Nat) (o:Oper) (F:Nat→Option AV) (h:AH) (v:AV) (b:Bool) (h':AH):Prop where
  yes:b=true→cg P c o.op (dT F) h=some (v,h')
  no:b=false→v=.undef∧h'=h
  g0:o.guard=none→b=true
  g1:∀g,o.guard=some g→∃d vg,wM ops.toList o=some d∧F d=some vg∧b=wT vg g.2
  dst:∀d,o.dst=some d→d<n
  ld:b=true→yo P o.op=true→∃a,JZ (dT F) o.op=some a∧LP ⟨i,a,gX P o.op,v⟩
  hv:b=true→zq P o.op=true→HP ⟨i,h,h'⟩
inductive lK (P:Program) (c:CV) (n:Nat) (ops:Array Oper) (LP:JK→Prop) (HP:QR→Prop):Nat→(Nat→Option AV)→AH→Nat→(Nat→Option AV)→AH→Prop where
  |nil (i:Nat) (F:Nat→Option AV) (h:AH):lK P c n ops LP HP i F h i F h
  | cons (i : Nat) (o : Oper) (F : Nat → Option AV) (h : AH) (v : AV) (b : Bool) (h' : AH) (j : Nat) (F' : Nat → Option AV) (h2 : AH) : ops[i]? = some o → EP P c n ops LP HP i o F h v b h' →
      lK P c n ops LP HP (i+1) (mf F o.dst v) h' j F' h2→lK P c n ops LP HP i F h j F' h2
theorem lK.trans {n:Nat} {ops:Array Oper} {LP:JK→Prop} {HP:QR→Prop} {i j k:Nat} {F F' IF:Nat→Option AV} {h h' nA:AH}
  (a:lK P c n ops LP HP i F h j F' h') (b:lK P c n ops LP HP j F' h' k IF nA):lK P c n ops LP HP i F h k IF nA:=by
 induction a with
 |nil=>exact b
 |cons i o F h v b' h' j F' h2 ho hs _ ih=>exact .cons i o F h v b' h' k _ _ ho hs (ih b)
structure Tr (P:Program) (c:CV) (n:Nat) (ops:Array Oper) (LP:JK→Prop) (HP:QR→Prop) (F:Nat→Nat→Option AV) (H:Nat→AH) (V:Nat→AV) (W:Nat→Bool):Prop where
  step:∀i o,ops[i]? =some o→EP P c n ops LP HP i o (F i) (H i) (V i) (W i) (H (i+1))∧F (i+1)=mf (F i) o.dst (V i)
theorem lK.fns {n:Nat} {ops:Array Oper} {LP:JK→Prop} {HP:QR→Prop} {i j:Nat} {F0 F1:Nat→Option AV} {h0 h1:AH} (a:lK P c n ops LP HP i F0 h0 j F1 h1) :
  i≤j∧∃(F:Nat→Nat→Option AV) (H:Nat→AH) (V:Nat→AV) (W:Nat→Bool),F i=F0∧H i=h0∧F j=F1∧H j=h1∧
   ∀k o,i≤k→k<j→ops[k]? =some o→EP P c n ops LP HP k o (F k) (H k) (V k) (W k) (H (k+1))∧F (k+1)=mf (F k) o.dst (V k):=by
 induction a with
 |nil i F h=>exact⟨Nat.le_refl _,λ_=>F,λ_=>h,λ_=>.undef,λ_=>true,rfl,rfl,rfl,rfl,λk o h1 h2=>by omega⟩
 |cons i o F h v b h' j F' h2 ho hs _ ih=>
  obtain⟨oU,G,H,V,W,e1,e2,e3,e4,e5⟩:=ih;refine⟨by omega,λk=>if k=i then F else G k,λk=>if k=i then h else H k,λk=>if k=i then v else V k,λk=>if k=i then b else W k,by simp,by simp,?_,?_,?_⟩
  ·simp only[];rw[iQ omQ];exact e3
  ·simp only[];rw[iQ omQ];exact e4
  ·intro k o' hk hkj dB;simp only[];by_cases oh:k=i
   ·subst oh;rw[ho]at dB;cases dB;rw[iJ rfl,iJ rfl,iJ rfl,iJ rfl,iQ omQ,iQ omQ,e1,e2];exact⟨hs,rfl⟩
   ·rw[iQ oh,iQ oh,iQ oh,iQ oh,iQ omQ,iQ omQ];exact e5 k o' omQ hkj dB
end Go.Ae
namespace Go.Ae
open Go
variable {P:Program} {c:CV} {n:Nat} {ops:Array Oper}
theorem YS {tm:PT AV} {F:Nat→Option AV} (h:wh tm F) {dst:Option Tmp} {v:AV} {k:PT AV→R} {r:AV×AH} (e:UF n tm dst v k=some r) :
  ∃tm',k tm'=some r∧wh tm' (mf F dst v)∧∀d,dst=some d→d<n:=by
 cases dst with
 |none=>exact⟨tm,e,λt u hu=>by simp only[mf];rw[iQ aN];exact h t u hu,λd hd=>by cases hd⟩
 |some d=>
  simp only[UF,jO]at e;refine⟨_,e.2,?_,λd' hd=>by cases hd;exact jf e.1⟩;intro t u hu;rw[PT.bE]at hu;simp only[mf];by_cases hd:d=t
  ·subst hd;rw[iJ rfl]at hu ⊢;exact hu
  ·rw[iQ hd]at hu;rw[iQ (by simpa using hd)];exact h t u hu
theorem Vh {o:Op} (hl:yo P o=true):KO o=true∨kS P o=true∨gn P o=true:=by unfold yo at hl;rw[Bool.or_eq_true,Bool.or_eq_true]at hl;exact hl
theorem qVd {o:Op} (hl:kS P o=true):∃t x lo hi mx,o=.slice t x lo hi mx:=by
 cases o<;>first |exact⟨_,_,_,_,_,rfl⟩ |cases hl
theorem qzr {o:Op} (hl:yo P o=true):zq P o=false:=by
 rcases Vh hl with h |h |h
 ·obtain⟨t,x,rfl⟩:=Ju h;rfl
 ·obtain⟨t,x,lo,hi,mx,rfl⟩:=qVd h;rfl
 ·exact IE h
theorem qqd {tm:PT AV} {F:Nat→Option AV} (T:wh tm F) {o:Op} {a:AV} (h:JZ (ev tm) o=some a):JZ (dT F) o=some a:=by
 cases o<;>first |exact Dn T _ _ h |cases h
theorem IG {F:Nat→Option AV} {h h':AH} {o:Op} {v:AV} (e:cg P c o (dT F) h=some (v,h')) (hl:yo P o=true):∃a,JZ (dT F) o=some a:=by
 rcases Vh hl with hl |hl |hl
 ·obtain⟨t,x,rfl⟩:=Ju hl;obtain⟨_,b,off,hx,_⟩:=UR e;exact⟨_,hx⟩
 ·obtain⟨_,x,_,u,_,hu,_⟩:=MH hl e;exact⟨u,hu⟩
 ·obtain⟨_,_,_,x,_,u,_,hu,_⟩:=UB hl e;exact⟨u,hu⟩
theorem U7 {F:Nat→Option AV} {dst:Option Tmp} {v:AV} {d:Nat} (h:dst≠some d):mf F dst v d=F d:=by simp only[mf];rw[iQ h]
abbrev LT:JK→Prop:=λ_=>True
abbrev HT:QR→Prop:=λ_=>True
theorem qWc {g:Option (Nat×Bool)} {r:AV×AH}:∀(l:List Oper) (j:Nat) (tm:PT AV) (F:Nat→Option AV) (h:AH) (k:PT AV→AH→R),
  (∀i o,l[i]? =some o→ops[j+i]? =some o∧o.guard=g)→
  (∀q,g=some q→∃d vg,(∀o:Oper,o.guard=some q→wM ops.toList o=some d)∧writes d l=false∧F d=some vg∧wT vg q.2=true)→
  wh tm F→uM P c n l tm h k=some r→∃tm' h' F',k tm' h'=some r∧wh tm' F'∧lK P c n ops LT HT j F h (j+l.length) F' h':=by
 intro l
 induction l with
 |nil=>intro j tm F h k _ _ T e;exact⟨tm,h,F,e,T,.nil _ _ _⟩
 |cons o l ih=>
  intro j tm F h k hl hg T e;simp only[uM]at e;obtain⟨v,h1,e1,e⟩:=Jw e;have e1:=K6 (Dn T) e1;obtain⟨cA,e,T1,hd⟩:=YS T e;obtain⟨ho,eG⟩:=hl 0 o rfl
  obtain⟨tm',h',F',e',T',S⟩:=ih (j+1) cA _ h1 k (λi o' hi=>by have:=hl (i+1) o' hi;rwa [show j+(i+1)=j+1+i by omega]at this) (by
   intro q hq;obtain⟨d,vg,g1,g2,g3,g4⟩:=hg q hq;refine⟨d,vg,g1,?_,?_,g4⟩
   ·simp only[writes,Bool.or_eq_false_iff]at g2;exact g2.2
   ·rw[U7 (J7 g2 o (iK ..))];exact g3) T1 e
  refine⟨tm',h',F',e',T',?_⟩;rw[show j+(o::l).length=j+1+l.length by simp;omega];refine .cons j o F h v true h1 _ _ _ ho ⟨λ_=>e1,(λhh=>by cases hh),λ_=>rfl,?_,hd,?_,λ_ _=>trivial⟩ S
  ·intro q hq;rw[eG]at hq;obtain⟨d,vg,g1,g2,g3,g4⟩:=hg q hq;exact⟨d,vg,g1 o (by rw[eG,hq]),g3,g4.symm⟩
  ·intro _ rN;obtain⟨a,ha⟩:=IG e1 rN;exact⟨a,ha,trivial⟩
theorem qZ2 {q:Nat×Bool} {d:Nat} {vg:AV} {h:AH} {r:AV×AH}:∀(l:List Oper) (j:Nat) (tm:PT AV) (F:Nat→Option AV) (k:PT AV→R),
  (∀i o,l[i]? =some o→ops[j+i]? =some o∧o.guard=some q)→
  (∀o:Oper,o.guard=some q→wM ops.toList o=some d)→writes d l=false→F d=some vg→wT vg q.2=false→
  wh tm F→Km n l tm k=some r→∃tm' F',k tm'=some r∧wh tm' F'∧lK P c n ops LT HT j F h (j+l.length) F' h:=by
 intro l
 induction l with
 |nil=>intro j tm F k _ _ _ _ _ T e;exact⟨tm,F,e,T,.nil _ _ _⟩
 |cons o l ih=>
  intro j tm F k hl mR hw hF sO T e;simp only[Km]at e;obtain⟨cA,e,T1,hd⟩:=YS T e;obtain⟨ho,eG⟩:=hl 0 o rfl;have dx:=J7 hw;obtain⟨tm',F',e',T',S⟩:=ih (j+1) cA _ k (λi o' hi=>by have:=hl (i+1) o' hi;rwa [show j+(i+1)=j+1+i by omega]at this) mR
   (by simp only[writes,Bool.or_eq_false_iff]at hw;exact hw.2) (by rw[U7 (dx o (iK ..))];exact hF) sO T1 e
  refine⟨tm',F',e',T',?_⟩;rw[show j+(o::l).length=j+1+l.length by simp;omega];refine .cons j o F h .undef false h _ _ _ ho ⟨(λhh=>by cases hh),λ_=>⟨rfl,rfl⟩,(λhh=>by rw[eG]at hh;cases hh),?_,hd,(λhh=>by cases hh),(λhh=>by cases hh)⟩ S;intro q' hq;rw[eG]at hq;cases hq;exact⟨d,vg,mR o eG,hF,sO.symm⟩
theorem qvP {tm:PT AV} {F:Nat→Option AV} (T:wh tm F):∀(L:List Nat) (acc:PT AV),wh acc F→xA tm L=true→wh (gL L (vi L tm) acc) F:=by
 intro L
 induction L with
 |nil=>intro acc A _;exact A
 |cons t L ih=>
  intro acc A hh;simp only[xA,Bool.and_eq_true]at hh;simp only[vi,gL];refine ih _ ?_ hh.2;have h1:=hh.1;unfold has at h1
  split at h1
  ·rename_i v hv;intro s u hs;rw[PT.bE]at hs;by_cases e:t=s
   ·subst e;rw[iJ rfl]at hs;cases hs;exact T t v hv
   ·rw[iQ e]at hs;exact A s u hs
  ·cases h1
theorem IH {tm:PT AV} {F:Nat→Option AV} (T:wh tm F) (L:List Nat) (hh:xA tm L=true):wh (gL L (vi L tm) .e) F:=qvP T L .e (λt v hv=>by rw[PT.ey]at hv;cases hv) hh
theorem Ko {v:AV} {w:Bool} {a b:R} {r:AV×AH} (e:kL v w a b=some r):(wT v w=true∧a=some r)∨(wT v w=false∧b=some r):=by
 rw[Ka]at e
 split at e
 ·rename_i t;simp only[wT];cases ht:(t==w)
  ·rw[ht]at e;exact .inr ⟨rfl,e⟩
  ·rw[ht]at e;exact .inl ⟨rfl,e⟩
 ·rename_i hn;refine .inr ⟨?_,e⟩;cases v<;>first |rfl |exact absurd rfl (hn _)
theorem qG3 {r:AV×AH}:∀(f:Nat) (l:List Oper) (j:Nat) (Ls:List (List Nat)) (tm:PT AV) (F:Nat→Option AV) (h:AH) (k:PT AV→AH→R),
  (∀i o,l[i]? =some o→ops[j+i]? =some o)→wh tm F→Xf P c n ops.toList f l Ls tm h k=some r→
  ∃tm' h' F',k tm' h'=some r∧wh tm' F'∧lK P c n ops LT HT j F h (j+l.length) F' h':=by
 intro f
 induction f with
 |zero=>
  intro l j Ls tm F h k hl T e;cases l with
  |nil=>exact⟨tm,h,F,e,T,.nil _ _ _⟩
  |cons o l=>simp only[Xf,reduceCtorEq]at e
 |succ f ih=>
  intro l j Ls tm F h k hl T e;cases l with
  |nil=>exact⟨tm,h,F,e,T,.nil _ _ _⟩
  |cons o l=>
   cases hg:o.guard with
   |none=>simp only[Xf,hg]at e;obtain⟨v,h1,e1,e⟩:=Jw e;have e1:=K6 (Dn T) e1;obtain⟨cA,e,T1,hd⟩:=YS T e;obtain⟨tm',h',F',e',T',S⟩:=ih l (j+1) Ls cA _ h1 k (λi o' hi=>by have:=hl (i+1) o' hi;rwa [show j+(i+1)=j+1+i by omega]at this) T1 e;refine⟨tm',h',F',e',T',?_⟩;rw[show j+(o::l).length=j+1+l.length by simp;omega];refine .cons j o F h v true h1 _ _ _ (hl 0 o rfl) ⟨λ_=>e1,(λhh=>by cases hh),λ_=>rfl,(λq hq=>by rw[hg]at hq;cases hq),hd,?_,λ_ _=>trivial⟩ S;intro _ rN;obtain⟨a,ha⟩:=IG e1 rN;exact⟨a,ha,trivial⟩
   |some g=>
    simp only[Xf,hg,qg]at e;obtain⟨d,hd,vg,rM,e⟩:=e;cases Ls with
    |nil=>cases e
    |cons L sq=>
     simp only[Vj]at e;obtain⟨Bi,e⟩:=e;have mR:∀o':Oper,o'.guard=some g→wM ops.toList o'=some d:=by intro o' nK;unfold wM at hd ⊢;rw[hg]at hd;rw[nK];exact hd
     have hF:=T d vg rM;have fA:o::l=(o::(zw g l).1)++(zw g l).2:=by rw[List.cons_append,MQ]
     have rf:∀i o',(o::(zw g l).1)[i]? =some o'→ops[j+i]? =some o'∧o'.guard=some g:=by
      intro i o' hi;refine⟨hl i o' ?_,?_⟩
      ·rw[fA,List.getElem?_append_left (List.getElem?_eq_some_iff.1 hi).1];exact hi
      ·rcases List.mem_cons.1 (List.mem_of_getElem? hi)with rfl |hm
       ·exact hg
       ·exact Iu g l o' hm
     have lF:∀i o',(zw g l).2[i]? =some o'→ops[j+(o::(zw g l).1).length+i]? =some o':=by intro i o' hi;rw[Nat.add_assoc];refine hl _ o' ?_;rw[fA,List.getElem?_append_right omQ];rw[show(o::(zw g l).1).length+i-(o::(zw g l).1).length=i by omega];exact hi
     have hlen:j+(o::l).length=j+(o::(zw g l).1).length+(zw g l).2.length:=by have:=congrArg List.length fA;simp only[List.length_append]at this;omega
     have fin:∀cA h1 F1,wh cA F1→lK P c n ops LT HT j F h (j+(o::(zw g l).1).length) F1 h1→
       cj (xA cA L) (Xf P c n ops.toList f (zw g l).2 sq (gL L (vi L cA) .e) h1 k) none=some r→
       ∃tm' h' F',k tm' h'=some r∧wh tm' F'∧lK P c n ops LT HT j F h (j+(o::l).length) F' h':=by
      intro cA h1 F1 T1 S1 e1;rw[jO]at e1;obtain⟨tm',h',F',e',T',S⟩:=ih (zw g l).2 _ sq _ F1 h1 k lF (IH T1 L e1.1) e1.2;refine⟨tm',h',F',e',T',?_⟩;rw[hlen];exact S1.trans S
     simp only[yH]at e;rcases Ko e with⟨hw,e⟩ |⟨hw,e⟩
     ·obtain⟨cA,h1,F1,e1,T1,S1⟩:=qWc (o::(zw g l).1) j tm F h _ rf (by
       intro q hq;cases hq;exact⟨d,vg,mR,Bi,hF,hw⟩) T e
      exact fin cA h1 F1 T1 S1 e1
     ·obtain⟨cA,F1,e1,T1,S1⟩:=qZ2 (P:=P) (c:=c) (h:=h) (o::(zw g l).1) j tm F _ rf mR Bi hF hw T e;exact fin cA h F1 T1 S1 e1
def mS (kn:List (Nat×Bool×Bool)) (F:Nat→Option AV):Prop:=∀x∈kn,∃v,F x.1=some v∧wT v x.2.1=x.2.2
theorem YU {kn:List (Nat×Bool×Bool)} {F:Nat→Option AV} {d:Nat} {w t:Bool} {v:AV} (K:mS kn F) (hv:F d=some v) (e:XA kn d w=some t):wT v w=t:=by
 induction kn with
 |nil=>cases e
 |cons x r ih=>
  obtain⟨u,h1,h2⟩:=K x (iK ..);unfold XA at e;cases h3:(Nat.beq x.1 d&&(x.2.1==w))
  ·rw[h3,cond_false]at e;cases h4:(Nat.beq x.1 d&&x.2.2)
   ·rw[h4,cond_false]at e;exact ih (λy hy=>K y (iX _ hy)) e
   ·rw[h4,cond_true]at e;cases e;rw[Bool.and_eq_true]at h4;have hd:=Nat.eq_of_beq_eq_true h4.1;rw[hd,hv]at h1;cases h1;rw[h4.2]at h2;rw[h4.1,Bool.true_and]at h3;cases v with
    |bool b=>simp only[wT,beq_iff_eq]at h2 ⊢;subst h2;exact h3
    |_=>rfl
  ·rw[h3,cond_true]at e;cases e;rw[Bool.and_eq_true]at h3;have hd:=Nat.eq_of_beq_eq_true h3.1;rw[hd,hv]at h1;cases h1;rw[← h2,show x.2.1=w by simpa using h3.2]
theorem mS.drop {kn:List (Nat×Bool×Bool)} {F:Nat→Option AV} {dst:Option Tmp} {v:AV} (K:mS kn F):mS (cT dst kn) (mf F dst v):=by
 induction kn with
 |nil=>intro x hx;cases hx
 |cons x r ih=>
  have ihr:=ih λy hy=>K y (iX _ hy);unfold cT;cases hb:tw dst x.1
  ·rw[cond_false];intro y hy;rcases List.mem_cons.1 hy with rfl |hy
   ·obtain⟨u,h1,h2⟩:=K y (iK ..);refine⟨u,?_,h2⟩;simp only[mf];rw[iQ ?_]
    ·exact h1
    ·cases dst with
     |none=>simp
     |some t=>simp only[tw]at hb;intro hh;cases hh;rw[Nat.beq_refl]at hb;cases hb
   ·exact ihr y hy
  ·rw[cond_true];exact ihr
theorem Vk {x:Operand} {F:Nat→Option AV} {b:Bool} {v:AV} (h:GX x=some b) (e:dT F x=some v):v=.bool b:=by
 cases x<;>try (cases h;done)
 rename_i k;simp only[GX]at h;have e:Uv k=some v:=e;rw[e]at h;cases v<;>simp only[Option.some.injEq,reduceCtorEq]at h
 rw[h]
theorem qYr {kn:List (Nat×Bool×Bool)} {F:Nat→Option AV} {o:Op} {h h':AH} {v:AV} {b:Bool} (K:mS kn F) (e:cg P c o (dT F) h=some (v,h')) (hl:KV kn o=some b):v=.bool b:=by
 have mv:∀d,C8 kn d=some b→F d=some v→v=.bool b:=λd hb hv=>by
  unfold C8 at hb
  split at hb
  ·rename_i h1;cases hb;have:=YU K hv h1;cases v<;>first |(cases this;done) |skip
   rename_i s;cases s<;>first |rfl |cases this
  ·split at hb
   ·rename_i h1;cases hb;have:=YU K hv h1;cases v<;>first |(cases this;done) |skip
    rename_i s;cases s<;>first |rfl |cases this
   ·cases hb
 cases o<;>try (cases hl;done)
 case move x=>
  cases x<;>try (cases hl;done)
  unfold cg at e;simp only[aX,qg]at e;obtain⟨u,hu,e⟩:=e;simp only[Option.some.injEq,Prod.mk.injEq]at e;exact mv _ hl (by rw[← e.1];exact hu)
 case assign x=>
  cases x<;>try (cases hl;done)
  unfold cg at e;simp only[aX,qg]at e;obtain⟨u,hu,e⟩:=e;simp only[Option.some.injEq,Prod.mk.injEq]at e;exact mv _ hl (by rw[← e.1];exact hu)
 rename_i x y z;cases x<;>try (cases hl;done)
 rename_i d;simp only[KV]at hl;unfold cg at e;simp only[aX,qg]at e;obtain⟨vx,hx,vy,hy,vz,hz,e⟩:=e;have hx:F d=some vx:=hx;cases hk:XA kn d true with
 |none=>rw[hk]at hl;cases hl
 |some t=>
  rw[hk]at hl;have hw:=YU K hx hk;cases vx with
  |bool s=>
   have cP:s=t:=by cases s<;>cases t<;>first |rfl |cases hw
   subst cP;cases s with
   |false=>have hl:GX z=some b:=hl;have e2:some (vz,h)=some (v,h'):=e;simp only[Option.some.injEq,Prod.mk.injEq]at e2;rw[← e2.1];exact Vk hl hz
   |true=>have hl:GX y=some b:=hl;have e2:some (vy,h)=some (v,h'):=e;simp only[Option.some.injEq,Prod.mk.injEq]at e2;rw[← e2.1];exact Vk hl hy
  |_=>cases e
theorem mS.oV {kn:List (Nat×Bool×Bool)} {F:Nat→Option AV} {o:Op} {dst:Option Tmp} {h h':AH} {v:AV} (K:mS kn F) (e:cg P c o (dT F) h=some (v,h')):mS (Jz dst o kn) (mf F dst v):=by
 unfold Jz;generalize HL=b;cases b
 ·exact K.drop
 ·rw[cond_true];cases dst with
  |none=>exact K.drop
  |some t=>
   cases hl:KV kn o with
   |none=>exact K.drop
   |some b=>
    have:=qYr K e hl;subst this;intro x hx;rcases List.mem_cons.1 hx with rfl |hx
    ·exact⟨.bool b,by simp[mf],by cases b<;>rfl⟩
    ·rcases List.mem_cons.1 hx with rfl |hx
     ·exact⟨.bool b,by simp[mf],by cases b<;>rfl⟩
     ·exact K.drop x hx
theorem qQF {kn:List (Nat×Bool×Bool)} {F:Nat→Option AV} {d:Nat} {w:Bool} {v:AV} {a b:R} {r:AV×AH} (K:mS kn F) (hv:F d=some v) (e:HK (XA kn d w) v w a b=some r):(wT v w=true∧a=some r)∨(wT v w=false∧b=some r):=by
 cases hl:XA kn d w with
 |none=>rw[hl]at e;exact Ko e
 |some t=>
  rw[hl]at e;have:=YU K hv hl;cases t
  ·exact .inr ⟨this,e⟩
  ·exact .inl ⟨this,e⟩
theorem mS.more {kn:List (Nat×Bool×Bool)} {F:Nat→Option AV} {d:Nat} {w t:Bool} {v:AV} (K:mS kn F) (hv:F d=some v) (hw:wT v w=t):mS ((d,w,t)::kn) F:=by
 intro x hx;rcases List.mem_cons.1 hx with rfl |hx
 ·exact⟨v,hv,hw⟩
 ·exact K x hx
theorem qV4 {r:AV×AH}:∀(l:List Oper) (j:Nat) (kn:List (Nat×Bool×Bool)) (tm:PT AV) (F:Nat→Option AV) (h:AH) (ls:List JK) (hs:List QR) (k:PT AV→AH→List JK→List QR→R),
  (∀i o,l[i]? =some o→ops[j+i]? =some o)→wh tm F→mS kn F→YL P c n ops.toList l j kn tm h ls hs k=some r→
  ∃tm' h' F' lL lM,k tm' h' lL lM=some r∧wh tm' F'∧(∀x∈ls,x∈lL)∧(∀x∈hs,x∈lM)∧∀(LP:JK→Prop) (HP:QR→Prop),(∀x∈lL,LP x)→(∀x∈lM,HP x)→lK P c n ops LP HP j F h (j+l.length) F' h':=by
 intro l
 induction l with
 |nil=>intro j kn tm F h ls hs k _ T _ e;exact⟨tm,h,F,ls,hs,e,T,λ_ h=>h,λ_ h=>h,λ_ _ _ _=>.nil _ _ _⟩
 |cons o l ih=>
  intro j kn tm F h ls hs k hl T KN e;have dQ:∀i o',l[i]? =some o'→ops[j+1+i]? =some o':=λi o' hi=>by have:=hl (i+1) o' hi;rwa [show j+(i+1)=j+1+i by omega]at this
  have ho:=hl 0 o rfl;have yes:∀(Bu:List (Nat×Bool×Bool)) (Dp:mS Bu F) (Dq:∀g,o.guard=some g→∃d vg,wM ops.toList o=some d∧F d=some vg∧true=wT vg g.2),
    aX P c o.op (ev tm) h (λv h'=>UF n tm o.dst v λtm'=>
     cj (yo P o.op) (ob (JZ (ev tm) o.op) λa=>YL P c n ops.toList l (j+1) (cT o.dst Bu) tm' h' (⟨j,a,gX P o.op,v⟩::ls) hs k) (cj (zq P o.op) (YL P c n ops.toList l (j+1) (cT o.dst Bu) tm' h' ls (⟨j,h,h'⟩::hs) k) (YL P c n ops.toList l (j+1) (cT o.dst Bu) tm' h' ls hs k)))=some r→
    ∃tm' h' F' lL lM,k tm' h' lL lM=some r∧wh tm' F'∧(∀x∈ls,x∈lL)∧(∀x∈hs,x∈lM)∧∀(LP:JK→Prop) (HP:QR→Prop),(∀x∈lL,LP x)→(∀x∈lM,HP x)→lK P c n ops LP HP j F h (j+(o::l).length) F' h':=by
   intro Bu Dp Dq e;obtain⟨v,h1,e1,e⟩:=Jw e;have e1:=K6 (Dn T) e1;obtain⟨cA,e,T1,hd⟩:=YS T e;rw[show j+(o::l).length=j+1+l.length by simp;omega];cases rN:yo P o.op
   ·rw[rN]at e;simp only[cj]at e;cases Bv:zq P o.op
    ·rw[Bv]at e;simp only[]at e;obtain⟨tm',h',F',lL,lM,e',T',s1,s2,S⟩:=ih (j+1) _ cA _ h1 ls hs k dQ T1 (Dp.oV e1) e;refine⟨tm',h',F',lL,lM,e',T',s1,s2,λLP HP hL hH=>?_⟩;exact .cons j o F h v true h1 _ _ _ ho ⟨λ_=>e1,(λhh=>by cases hh),λ_=>rfl,Dq,hd,(λ_ hh=>by rw[rN]at hh;cases hh),(λ_ hh=>by rw[Bv]at hh;cases hh)⟩ (S LP HP hL hH)
    ·rw[Bv]at e;simp only[]at e;obtain⟨tm',h',F',lL,lM,e',T',s1,s2,S⟩:=ih (j+1) _ cA _ h1 ls _ k dQ T1 (Dp.oV e1) e;refine⟨tm',h',F',lL,lM,e',T',s1,λx hx=>s2 x (iX _ hx),λLP HP hL hH=>?_⟩;exact .cons j o F h v true h1 _ _ _ ho ⟨λ_=>e1,(λhh=>by cases hh),λ_=>rfl,Dq,hd,(λ_ hh=>by rw[rN]at hh;cases hh),λ_ _=>hH _ (s2 _ (iK ..))⟩ (S LP HP hL hH)
   ·rw[rN]at e;simp only[cj,qg]at e;obtain⟨a,ha,e⟩:=e;obtain⟨tm',h',F',lL,lM,e',T',s1,s2,S⟩:=ih (j+1) _ cA _ h1 _ hs k dQ T1 (Dp.oV e1) e;have tP:JZ (dT F) o.op=some a:=qqd T ha;refine⟨tm',h',F',lL,lM,e',T',λx hx=>s1 x (iX _ hx),s2,λLP HP hL hH=>?_⟩;refine .cons j o F h v true h1 _ _ _ ho ⟨λ_=>e1,(λhh=>by cases hh),λ_=>rfl,Dq,hd,λ_ _=>⟨a,tP,hL _ (s1 _ (iK ..))⟩,?_⟩ (S LP HP hL hH);intro _ hh;rw[qzr rN]at hh;cases hh
  cases hg:o.guard with
  |none=>simp only[YL,hg]at e;exact yes kn KN (λg hh=>by rw[hg]at hh;cases hh) e
  |some g=>
   simp only[YL,hg,qg]at e;obtain⟨d,hd,vg,rM,e⟩:=e;rcases qQF KN (T d vg rM) e with⟨hw,e⟩ |⟨hw,e⟩
   ·exact yes _ (KN.more (T d vg rM) hw) (λg' hh=>by rw[hg]at hh;cases hh;exact⟨d,vg,hd,T d vg rM,hw.symm⟩) e
   ·obtain⟨cA,e,T1,oX⟩:=YS T e;obtain⟨tm',h',F',lL,lM,e',T',s1,s2,S⟩:=ih (j+1) _ cA _ h ls hs k dQ T1 (KN.more (T d vg rM) hw).drop e;refine⟨tm',h',F',lL,lM,e',T',s1,s2,λLP HP hL hH=>?_⟩;rw[show j+(o::l).length=j+1+l.length by simp;omega];refine .cons j o F h .undef false h _ _ _ ho ⟨(λhh=>by cases hh),λ_=>⟨rfl,rfl⟩,(λhh=>by rw[hg]at hh;cases hh),?_,oX,(λhh=>by cases hh),(λhh=>by cases hh)⟩ (S LP HP hL hH);intro g' hh;rw[hg]at hh;cases hh;exact⟨d,vg,hd,T d vg rM,hw.symm⟩
end Go.Ae
namespace Go.Ae
open Go
variable {P:Program} {c:CV}
theorem qJF (hc:x7 P c) {o:Oper} {r:Operand→Option AV} {h h':AH} {v:AV} {m:Mp} {D:Nat→Prop} {w:World} (hr:∀x v,r x=some v→bm D v) (RR:Rel P m D h w)
  (e:cg P c o.op r h=some (v,h')):∃m' D' w',Ext m D h w m' D' h' w'∧Rel P m' D' h' w'∧bm D' v:=by
 let ρ:Operand→Value:=λx=>match r x with |some v=>cv m v |none=>undef
 have hρ:dr m D ρ r:=λx u hu=>⟨by simp only[ρ,hu],hr x u hu⟩;by_cases hv:∃cl f,o.op=.call cl∧cl.callee=.value f
 ·obtain⟨cl,f,ho,ix⟩:=hv;unfold cg at e;rw[ho]at e;simp only[aX,ix,qg]at e;obtain⟨vf,sG,va,rL,e⟩:=e;obtain⟨f1,f2⟩:=hρ _ _ sG;obtain⟨v1,v2⟩:=kC hρ rL;rw[kR]at e
  split at e
  ·rename_i q hq;simp only[Option.some.injEq,Prod.mk.injEq]at e;obtain⟨rfl,rfl⟩:=e;have dB:=hc vf va h q hq m D w RR f2 v2;cases vf<;>simp only[NM]at dB
   case fn f' first cap=>obtain⟨e,w',fr,hR,_⟩:=(dB.2 0).2 [] (room_wide _);obtain⟨m',D',_,hx,dZ,hd⟩:=hR;exact⟨m',D',w',hx,dZ,hd⟩
   case yield l=>obtain⟨f',tmps,assign,body,k1,k2⟩:=dB;obtain⟨e,w',hR,_⟩:=(k2 0).2 default [] (room_wide _);obtain⟨m',D',_,hx,dZ,hd⟩:=hR;exact⟨m',D',w',hx,dZ,hd⟩
  ·cases e
 ·have A6:∀cl f,o.op=.call cl→cl.callee≠.value f:=λcl f h1 h2=>hv ⟨cl,f,h1,h2⟩;by_cases hi:∃cl x name,o.op=.call cl∧cl.callee=.invoke x name
  ·obtain⟨cl,x,name,ho,ix⟩:=hi;unfold cg at e;rw[ho]at e;simp only[aX,ix,qg]at e;obtain⟨vx,rK,va,rL,e⟩:=e;obtain⟨f1,f2⟩:=hρ _ _ rK;obtain⟨v1,v2⟩:=kC hρ rL;unfold yz at e
   split at e
   ·rename_i t y;cases hf:GS (NH P name) t with
    |none=>rw[hf]at e;cases e
    |some f=>
     rw[hf]at e;simp only[kR]at e
     split at e
     ·rename_i q hq;simp only[Option.some.injEq,Prod.mk.injEq]at e;obtain⟨rfl,rfl⟩:=e;have dB:=hc (.fn f [] []) (y::va) h q hq m D w RR ⟨trivial,trivial⟩ ⟨f2,v2⟩;obtain⟨e,w',fr,hR,_⟩:=(dB.2 0).2 [] (room_wide _);obtain⟨m',D',_,hx,dZ,hd⟩:=hR;exact⟨m',D',w',hx,dZ,hd⟩
     ·cases e
   ·cases e
  have fG:∀cl x n,o.op=.call cl→cl.callee≠.invoke x n:=λcl x n h1 h2=>hi ⟨cl,x,n,h1,h2⟩;obtain⟨m',D',w',_,ex,re,hd⟩:=Ir (o:=o) A6 fG hρ RR e;exact⟨m',D',w',ex,re,hd⟩
def Dg (D:Nat→Prop) (H:Nat→AH) (i:Nat):Nat→Prop:=λb=>D b∨((H 0).nx≤b∧b<(H i).nx)
theorem Ext.oY {m m':Mp} {D D':Nat→Prop} {h h':AH} {w w':World} (e:Ext m D h w m' D' h' w'):D'=λb=>D b∨(h.nx≤b∧b<h'.nx):=funext λb=>propext (e.dm b)
structure Gh (P:Program) (D:Nat→Prop) (H:Nat→AH) (F:Nat→Nat→Option AV) (i:Nat):Prop where
  nx:(H 0).nx≤(H i).nx
  un:∀b,b<(H 0).nx→¬D b→(H i).get b=(H 0).get b
  br:∀b,Dg D H i b→∃x,(H i).get b=some x∧cr (Dg D H i) x
  slot:∀t v,F i t=some v→bm (Dg D H i) v
  ni:∀b t,Dg D H i b→(H i).get b=some (.cJ t)→D b∧(H 0).get b=some (.cJ t)
theorem qkA {D:Nat→Prop} {F:Nat→Option AV} (hF:∀t v,F t=some v→bm D v):∀x v,dT F x=some v→bm D v:=by
 intro x v e;cases x with
 |tmp t=>exact hF t v e
 |const k=>exact(QD (m:=λ_=>(0,0)) (D:=D) e).2
 |global g=>cases e
 |func f=>cases e;exact⟨trivial,trivial⟩
theorem O8 (hc:x7 P c) {n:Nat} {ops:Array Oper} {LP:JK→Prop} {HP:QR→Prop} {F:Nat→Nat→Option AV} {H:Nat→AH} {V:Nat→AV} {W:Nat→Bool}
  (T:Tr P c n ops LP HP F H V W) {m:Mp} {D:Nat→Prop} {w:World} (RR:Rel P m D (H 0) w) (h0:∀t v,F 0 t=some v→bm D v) :
  ∀i,i≤ops.size→(∃m' w',Ext m D (H 0) w m' (Dg D H i) (H i) w'∧Rel P m' (Dg D H i) (H i) w'∧∀t v,F i t=some v→bm (Dg D H i) v)∧(∀j,j<i→(H j).nx≤(H (j+1)).nx∧bm (Dg D H (j+1)) (V j)):=by
 intro i
 induction i with
 |zero=>intro _;have hD:Dg D H 0=D:=funext λb=>propext ⟨λh=>h.elim id λh=>by omega,.inl⟩;rw[hD];exact⟨⟨m,w,Ext.refl ..,RR,h0⟩,λj hj=>by omega⟩
 |succ i ih=>
  intro hi;obtain⟨⟨m1,w1,X1,R1,s1⟩,hb⟩:=ih omQ;obtain⟨o,ho⟩:∃o,ops[i]? =some o:=⟨_,Array.getElem?_eq_getElem omQ⟩;obtain⟨st,hF⟩:=T.step i o ho;have key:∃m' w',Ext m1 (Dg D H i) (H i) w1 m' (Dg D H (i+1)) (H (i+1)) w'∧Rel P m' (Dg D H (i+1)) (H (i+1)) w'∧bm (Dg D H (i+1)) (V i):=by
   cases hw:W i with
   |true=>
    obtain⟨m',D',w',X,R',hv⟩:=qJF hc (o:=o) (qkA s1) R1 (st.yes hw);have hD:D'=Dg D H (i+1):=by
     rw[X.oY];have:=X1.nx;have:=X.nx
     funext b
     simp only[Dg,eq_iff_iff];constructor
     ·rintro((h |h) |h)
      ·exact .inl h
      ·exact .inr ⟨h.1,by omega⟩
      ·exact .inr ⟨by omega,h.2⟩
     ·rintro(h |h)
      ·exact .inl (.inl h)
      ·by_cases hx:b<(H i).nx
       ·exact .inl (.inr ⟨h.1,hx⟩)
       ·exact .inr ⟨by omega,h.2⟩
    subst hD;exact⟨m',w',X,R',hv⟩
   |false=>
    obtain⟨e1,e2⟩:=st.no hw;have hD:Dg D H (i+1)=Dg D H i:=by unfold Dg;rw[e2]
    rw[hD,e2,e1];exact⟨m1,w1,Ext.refl ..,R1,trivial⟩
  obtain⟨m2,w2,X2,R2,hv⟩:=key;refine⟨⟨m2,w2,X1.trans X2,R2,?_⟩,?_⟩
  ·intro t v ht;rw[hF]at ht;unfold mf at ht
   split at ht
   ·cases ht;exact hv
   ·exact X2.bm (s1 t v ht)
  ·intro j hj;by_cases EQ:j=i
   ·subst EQ;exact⟨X2.nx,hv⟩
   ·exact hb j omQ
theorem qVr (hc:x7 P c) {n:Nat} {ops:Array Oper} {LP:JK→Prop} {HP:QR→Prop} {F:Nat→Nat→Option AV} {H:Nat→AH} {V:Nat→AV} {W:Nat→Bool}
  (T:Tr P c n ops LP HP F H V W) {m:Mp} {D:Nat→Prop} {w:World} (RR:Rel P m D (H 0) w) (h0:∀t v,F 0 t=some v→bm D v) {i:Nat} (hi:i≤ops.size):Gh P D H F i:=by
 obtain⟨⟨m',w',X,R',s⟩,_⟩:=O8 hc T RR h0 i hi;refine⟨X.nx,λb hb hn=>(X.un b hb hn).1,?_,s,X.ni⟩;intro b hb;obtain⟨x,hx,_,hd⟩:=R'.br b hb;exact⟨x,hx,hd⟩
end Go.Ae
