/- The abstract executor of the program's form in Lean, shown sound: regions that draw their order: what an operation looks at; the walk in the text's order. -/
import Derived.Test.YtpbpkcdebchbbaaGreatDoorAttemptPlaysAe4
namespace Go.Ae
open Go
variable {P:Program} {c:CV} {r r':Operand→Option AV} {h h':AH} {v:AV}
theorem kZ {l:List Operand} (hr:∀x∈l,r x=r' x):ww r l=ww r' l:=by
 induction l with
 |nil=>rfl
 |cons a l ih=>simp_all[ww]
theorem YC {pl:Nat→Option (Nat×Nat)} {l:List (Nat×Operand)} (hr:∀x∈l.map (·.2),r x=r' x):yH pl r l=yH pl r' l:=by
 induction l with
 |nil=>rfl
 |cons a l ih=>simp_all[yH,aA]
theorem Vx {x:Option Operand} (hr:∀y∈x,r y=r' y):Yh r x=Yh r' x:=by
 cases x with
 |none=>rfl
 |some x=>simp only[Yh,hr x rfl]
theorem qK6 {o:Op} {k:AV→AH→R} (hr:∀x∈o.operands,r x=r' x):bh P c o r h k=bh P c o r' h k:=by
 cases o with
 |call cl=>
  have ha:∀x∈cl.args.toList,r x=r' x:=λx hx=>hr x (by grind[Op.operands,Call.operands]);cases hc:cl.callee with
  |value f=>have hf:r f=r' f:=hr f (by grind[Op.operands,Call.operands]);simp only[bh,hc,hf,kZ ha]
  |invoke x name=>have hx:r x=r' x:=hr x (by grind[Op.operands,Call.operands]);simp only[bh,hc,hx,kZ ha]
  |builtin b=>
   cases b<;>simp only[bh,hc]
   case len=>
    grind
   case min=>rw[kZ ha]
   case max=>rw[kZ ha]
   split<;>simp_all
 |build t ps=> 
  have hp:∀pl,yH pl r ps.toList=yH pl r' ps.toList:=λpl=>YC λx hx=>hr x (by grind[Op.operands]);simp_all[bh]
 |buildSlice t n ps=> 
  have hp:∀pl,yH pl r ps.toList=yH pl r' ps.toList:=λpl=>YC λx hx=>hr x (by grind[Op.operands]);simp_all[bh]
 |makeFunc fn a cp=>have h1:ww r a.toList=ww r' a.toList:=kZ λx hx=>hr x (by grind[Op.operands]);have h2:ww r cp.toList=ww r' cp.toList:=kZ λx hx=>hr x (by grind[Op.operands]);grind
 |slice t x lo hi mx=>have h1:=hr x (by simp[Op.operands]);have h2:Yh r lo=Yh r' lo:=Vx λy hy=>hr y (by simp_all[Op.operands]);have h3:Yh r hi=Yh r' hi:=Vx λy hy=>hr y (by simp_all[Op.operands]);grind
 |_=>
  simp only[bh]
  try simp only[Op.operands,List.mem_toArray,List.mem_cons,List.not_mem_nil,or_false,forall_eq_or_imp,forall_eq]at hr
  try simp only[hr]
end Go.Ae
namespace Go.Ae
open Go
variable {P:Program} {c:CV} {r:Operand→Option AV} {h h':AH} {v:AV} {o:Op}
theorem qkd (hp:lY P o=.pure) (hc:Qc P o=false) (hv:kJ P o=false) (g:AH) (k:AV→AH→R):bh P c o r g k=bh P c o r h (λv _=>k v g):=by
 cases o with
 |convert s d x=>
  simp only[lY]at hp;simp only[kJ]at hv;simp only[bh,YH];grind
 |slice t x lo hi mx=>
  simp only[Qc]at hc;cases mx with
  |some _=>rfl
  |none=>
   simp only[bh];refine qm λ_=>qm λ_=>qm λ_=>?_;grind
 |call cl=>
  simp only[lY]at hp;cases dz:cl.callee with
  |value f=>grind
  |invoke a b=>grind
  |builtin b=> 
   grind
 |_=>first |rfl |trivial |skip
theorem TX (hp:lY P o=.pure) (hc:Qc P o=false) (hv:kJ P o=false) (e:cn P c o r h=some (v,h')):h'=h∧∀g,cn P c o r g=some (v,g):=by
 have key:∀g,cn P c o r g=some (v,g):=by intro g;unfold cn;rw[qkd hp hc hv (h:=h),TP,show cn P c o r h=some (v,h')from e];rfl
 simp_all
def De (mk:Nat→AV):Prop:=mk=(λb=>.ptr b 0)∨∃l k o,mk=λb=>.slice b 0 l k o
theorem MI (hp:lY P o=.fresh) (e:cn P c o r h=some (v,h')):∃mk x,De mk∧v=mk h.nx∧h'=h.new x∧∀g,cn P c o r g=some (mk g.nx,g.new x):=by
 have box:∀(t:TypeId) (u:AV),vQ h t u (λv h'=>some (v,h'))=some (v,h')→∃mk x,De mk∧v=mk h.nx∧h'=h.new x∧∀g,vQ g t u (λv h'=>some (v,h'))=some (mk g.nx,g.new x):=by intro t u e;unfold vQ at e;simp only[jO]at e;obtain⟨h1,e⟩:=e;cases e;exact⟨λb=>.ptr b 0,_,.inl rfl,rfl,rfl,λg=>by simp_all[vQ]⟩
 cases o with
 |alloc t=>grind
 |box t y=>grind
 |buildSlice t n ps=>
  unfold cn at e ⊢;simp only[bh,qO]at e ⊢;obtain⟨d,hd,e⟩:=e;cases d<;>simp only[reduceCtorEq]at e
  rename_i el;simp only[qO,xm]at e;obtain⟨z,hz,hle,vs,sc,e⟩:=e;unfold zR at e;simp only[qO,jO]at e;obtain⟨cs,oX,h1,e⟩:=e;cases e;refine⟨λb=>.slice b 0 n n false,_,.inr ⟨n,n,false,rfl⟩,rfl,rfl,λg=>⟨_,hd,?_⟩⟩;simp only[qO,xm];refine⟨z,hz,hle,vs,sc,?_⟩;unfold zR;grind
 |makeSlice t a b=>
  unfold cn at e ⊢;simp only[bh,qO]at e ⊢;obtain⟨d,hd,e⟩:=e;cases d<;>simp only[reduceCtorEq]at e
  rename_i el;simp only[qO]at e;obtain⟨z,hz,va,ui,vb,hvb,e⟩:=e;unfold QC at e
  split at e
  rotate_left
  ·grind
  rename_i k1 ln k2 cp;simp only[jO]at e;obtain⟨h1,e⟩:=e;cases e;refine⟨λb=>.slice b 0 ln cp false,_,.inr ⟨ln,cp,false,rfl⟩,rfl,rfl,λg=>⟨_,hd,?_⟩⟩;simp_all[QC,jO]
 |convert s d x=>
  simp only[lY]at hp
  grind
 |call cl=>
  simp only[lY]at hp;cases dz:cl.callee with
  |value f=>simp_all
  |invoke a b=>simp_all
  |builtin b=>
   rw[dz]at hp;cases b<;>first |(cases hp;done) |skip
   simp only[]at hp
   split at hp
   ·split at hp<;>cases hp
   grind
 |_=>simp only[lY,reduceCtorEq]at hp
theorem EP {a b:Int} (h:eV a b=true):a=b:=by grind[Ky]
theorem EQ {a b:List UInt8} (h:ig a b=true):a=b:=by grind[iB]
mutual
theorem KY:∀{a b:AV},gJ a b=true→a=b
 | .bool a,.bool b,h=>by simp only[gJ,beq_iff_eq]at h;rw[h]
 | .int k a,.int k' b,h=>by simp only[gJ,Bool.and_eq_true,beq_iff_eq]at h;rw[h.1,EP h.2]
 | .str a,.str b,h=>by simp only[gJ]at h;rw[EQ h]
 | .ptr b o,.ptr b' o',h=>by simp only[gJ,Bool.and_eq_true]at h;rw[zy h.1,zy h.2]
 | .au,.au,_=>rfl
 | .slice b o l c p,.slice b' o' l' c' p',h=>by simp only[gJ,Bool.and_eq_true,beq_iff_eq]at h;rw[zy h.1,zy h.2.1,zy h.2.2.1,zy h.2.2.2.1,h.2.2.2.2]
 | .ad,.ad,_=>rfl
 | .fn f a c,.fn f' a' c',h=>by simp only[gJ,Bool.and_eq_true]at h;rw[zy h.1,Y6 h.2.1,Y6 h.2.2]
 | .yield l,.yield l',h=>by simp only[gJ]at h;rw[zy h]
 | .ei,.ei,_=>rfl
 | .iface t v,.iface t' v',h=>by simp only[gJ,Bool.and_eq_true]at h;rw[zy h.1,KY h.2]
 | .cN,.cN,_=>rfl
 | .agg l,.agg l',h=>by simp only[gJ]at h;rw[Y6 h]
 | .bm l,.bm l',h=>by simp only[gJ]at h;rw[Y6 h]
 | .bX a,.bX a',h=>by simp only[gJ,decide_eq_true_eq]at h;rw[h]
 | .tail b o o' i,.tail b' p p' j,h=>by simp only[gJ,Bool.and_eq_true]at h;rw[zy h.1,zy h.2.1,zy h.2.2.1,zy h.2.2.2]
 | .eO b,.eO b',h=>by simp only[gJ]at h;rw[zy h]
theorem Y6:∀{a b:List AV},Gg a b=true→a=b
 |[],[],_=>rfl
 |a::r,b::s,h=>by simp only[Gg,Bool.and_eq_true]at h;rw[KY h.1,Y6 h.2]
end
end Go.Ae
namespace Go.Ae
open Go
variable {P:Program} {c:CV} {r:Operand→Option AV} {h h':AH} {v:AV} {o:Op}
theorem Va {t:TypeId} {x:Operand} (e:cn P c (.load t x) r h=some (v,h')):h'=h∧∃b off,r x=some (.ptr b off)∧
  (∀g,g.get b=h.get b→cn P c (.load t x) r g=some (v,g))∧(∀g,xG (.ptr b off) (wY P (.load t x)) v g=true→cn P c (.load t x) r g=some (v,g)):=by
 unfold cn at e;simp only[bh,qO]at e;obtain⟨a,ha,i,hi,e⟩:=e;have hn:wY P (.load t x)=i:=by grind[wY]
 rw[hn];cases i with
 |none=>
  simp only[gX]at e
  split at e
  rotate_left
  ·grind
  rename_i b off;have hz:∃z,(∀g,g.get b=h.get b→ql g (.ptr b off) (λz=>some (z,g))=some (z,g))∧(v,h')=(z,h):=by
   split at e
   ·rename_i cs t' op hg;simp only[qO]at e;obtain⟨z,hz,e⟩:=e;cases e;exact⟨_,λg BF=>by grind[gX],rfl⟩
   ·rename_i ti hg;simp only[qO]at e;obtain⟨z,hz,e⟩:=e;cases e;exact⟨_,λg BF=>by grind[gX],rfl⟩
   grind
  obtain⟨z,hz,e⟩:=hz;cases e;refine⟨rfl,b,off,ha,?_,?_⟩
  ·grind
  ·intro g hl;unfold cn;simp only[bh,qO];refine⟨_,ha,_,hi,?_⟩;simp only[xG]at hl
   split at hl
   ·rename_i Li t2 op2 ul
    split at hl
    ·rename_i y hy;have:=KY hl;subst this;simp only[gX,ul,qO];grind
    grind
   ·rename_i ti ul
    split at hl
    ·rename_i y hy;have:=KY hl;subst this;simp only[gX,ul,qO];grind
    grind
   grind
 |some n=>
  simp only[kG]at e
  split at e
  rotate_left
  ·grind
  rename_i b off;simp only[qO]at e;obtain⟨z,hz,e⟩:=e;cases e;refine⟨rfl,b,off,ha,?_,?_⟩
  ·intro g BF;unfold cn;simp only[bh,qO];refine⟨_,ha,_,hi,?_⟩;simp only[kG,qO];refine⟨z,?_,rfl⟩;grind[vK]
  ·intro g hl;unfold cn;simp only[bh,qO];refine⟨_,ha,_,hi,?_⟩;simp only[kG,qO];simp only[xG]at hl
   split at hl
   ·rename_i Li t2 op2 ul
    split at hl
    ·rename_i y hy;have:=KY hl;cases this;refine⟨_,?_,rfl⟩;grind[vK]
    grind
   ·rename_i ti ul
    split at hl
    ·rename_i y hy;have:=KY hl;cases this;refine⟨_,?_,rfl⟩;grind[vK]
    grind
   grind
theorem Xt (hl:Uc o=true):∃t x,o=.load t x:=by
 cases o<;>first |exact⟨_,_,rfl⟩ |cases hl
theorem Ni (a b:Nat) (h:b+1≤65536):(a*65536+b)/65536=a∧(a*65536+b)%65536=b:=by omega
theorem Nb (hc:Qc P o=true) (e:cn P c o r h=some (v,h')):h'=h∧∃x∈o.operands,∃u,r x=some u∧J6 r o=some u∧
  (∀g,(∀b off l i,u=.slice b off l i true→g.get b=h.get b)→cn P c o r g=some (v,g))∧(∀g,xG u (wY P o) v g=true→cn P c o r g=some (v,g)):=by
 cases o<;>try (cases hc;done)
 rename_i t x lo hi mx;unfold cn at e;cases mx with
 |some _=>grind
 |none=>
  simp only[bh,qO]at e;obtain⟨u,hu,l,hl,q,hq,d,hd,e⟩:=e;cases d<;>first |(simp only[reduceCtorEq]at e;done) |skip
  case string=>grind[Qc]
  case array n el=>grind[Qc]
  case slice el=>
   simp only[qO]at e;obtain⟨sz,bC,e⟩:=e;have key:∀g:AH,(∀b off l i,u=.slice b off l i true→g.get b=h.get b)→yX g el sz u l q (λz=>some (z,g))=cx (yX h el sz u l q (λz=>some (z,h))) (λv _=>some (v,g)):=by
    intro g hg;rw[OM];unfold yX
    split
    ·rfl
    ·rename_i b off len i0;have:vL g el b off sz i0 len=vL h el b off sz i0 len:=by unfold vL;grind
     grind
    all_goals rfl
   have ER:∀g:AH,(∀b off l i,u=.slice b off l i true→g.get b=h.get b)→cn P c (.slice t x lo hi none) r g=some (v,g):=by intro g hg;unfold cn;simp only[bh,qO];refine⟨u,hu,l,hl,q,hq,_,hd,?_⟩;simp only[qO];refine⟨sz,bC,?_⟩;grind
   have LX:∀g:AH,xG u (wY P (.slice t x lo hi none)) v g=true→cn P c (.slice t x lo hi none) r g=some (v,g):=by
    intro g hg;unfold cn;simp only[bh,qO];refine⟨u,hu,l,hl,q,hq,_,hd,?_⟩;simp only[qO];refine⟨sz,bC,?_⟩;have e0:yX g el sz u l q (λz=>some (z,g))=cx (yX h el sz u l q (λz=>some (z,h))) (λv _=>some (v,g)):=by
     rw[OM];unfold yX at e ⊢
     split at e
     ·rfl
     ·rename_i b off len i0;simp only[wY,hd,bC]at hg;cases hb:Nat.ble (sz+1) 65536
      ·rw[hb]at hg;cases hg
      ·rw[hb]at hg;simp only[cond_true,xG]at hg;have h1:=gI hb;grind[Ni,vL]
     all_goals rfl
    grind
   refine⟨?_,x,by simp[Op.operands],u,hu,hu,ER,LX⟩;grind
theorem qK3 {s:List UInt8} (hc:Qc P o=true) (e:cn P c o r h=some (.str s,h')):False:=by
 cases o<;>try (cases hc;done)
 rename_i t x lo hi mx;unfold cn at e;cases mx with
 |some _=>grind
 |none=>
  simp only[bh,qO]at e;obtain⟨u,hu,l,hl,q,hq,d,hd,e⟩:=e;cases d<;>first |(simp only[reduceCtorEq]at e;done) |skip
  case string=>grind[Qc]
  case array n el=>grind[Qc]
  case slice el=>
   simp only[qO]at e;obtain⟨sz,bC,e⟩:=e;unfold yX at e
   grind
theorem Vy (hc:kJ P o=true) (e:cn P c o r h=some (v,h')):h'=h∧wY P o=none∧(∃s,v=.str s)∧∃x∈o.operands,∃u,r x=some u∧J6 r o=some u∧
  ∀g,(∀b off l i p,u=.slice b off l i p→g.get b=h.get b)→cn P c o r g=some (v,g):=by
 cases o<;>try (cases hc;done)
 rename_i s d x;simp only[kJ]at hc
 split at hc
 rotate_left
 ·grind
 rename_i hd
 split at hc
 rotate_left
 ·grind
 rename_i el hs;unfold cn at e;simp only[bh,YH,hs,hd,qO,Option.some.injEq,exists_eq_left']at e;obtain⟨u,hu,de,Iu,e⟩:=e;cases de<;>first |(cases e;done) |skip
 rename_i k;cases k<;>first |(cases e;done) |skip
 replace e:Xv h u (λz=>some (z,h))=some (v,h'):=e
 have key:∀g,(∀b off l i p,u=.slice b off l i p→g.get b=h.get b)→(∃s,v=.str s)∧h'=h∧cn P c (.convert s d x) r g=some (v,g):=by
  intro g hg;have go:∀z,Xv g u (λy=>some (y,g))=some (z,g)→cn P c (.convert s d x) r g=some (z,g):=λz hz=>by
   grind
  unfold Xv at e
  split at e
  ·cases e;exact⟨⟨_,rfl⟩,rfl,go _ rfl⟩
  ·rename_i b off len i p;simp only[qO]at e;obtain⟨cs,oX,t,ht,e⟩:=e;cases e;refine⟨⟨_,rfl⟩,rfl,go _ ?_⟩;unfold Xv;simp only[qO];refine⟨cs,?_,t,ht,rfl⟩;unfold vK at oX ⊢;grind
  grind
 obtain⟨k1,k2,_⟩:=key h (λ_ _ _ _ _ _=>rfl);exact⟨k2,rfl,k1,x,by simp[Op.operands],u,hu,hu,λg hg=>(key g hg).2.2⟩
theorem qvp (hl:kJ P o=true):∃s d x,o=.convert s d x:=by
 cases o<;>first |exact⟨_,_,_,rfl⟩ |cases hl
theorem TY (hl:kJ P o=true):zd P o=false:=by
 obtain⟨s,d,x,rfl⟩:=qvp hl;grind[kJ,zd,lY]
theorem qxi (l:List Nat) (t:Nat):(D6 l).testBit t=l.any λa=>a.testBit t:=by
 induction l with
 |nil=>simp[D6]
 |cons a l ih=>grind[D6]
theorem Nd (t s:Nat):(bit t).testBit s=decide (t=s):=by simp[bit,Nat.testBit_two_pow]
theorem YA {all:List Oper} {o:Oper} {t:Nat} (h:.tmp t∈o.op.operands):(looks all o).testBit t=true:=by unfold looks;rw[Nat.testBit_or,qxi];simp only[Bool.or_eq_true,List.any_eq_true,List.mem_map];exact .inl ⟨_,⟨.tmp t,by grind,rfl⟩,by simp[Tk,Nd]⟩
theorem Ol {all:List Oper} {o:Oper} {g:Nat×Bool} {d:Nat} (hg:o.guard=some g) (hd:kS all o=some d):(looks all o).testBit d=true:=by simp_all[looks,Nat.testBit_or,Nd]
theorem Jf (o:Oper) (t:Nat):(Jl o).testBit t=decide (o.dst=some t):=by
 grind[Jl,Nd]
theorem UM {a b:Nat} (h:Nat.beq (a&&&b) 0=true) (t:Nat) (ha:a.testBit t=true):b.testBit t=false:=by have h:=zy h;have:=congrArg (λx=>x.testBit t) h;grind
end Go.Ae
namespace Go.Ae
open Go
variable {P:Program}
def K4 (e:Edge):Bool:=Region.binds .any e
theorem J9 {j:Nat} {l:List Edge} (h:QY j l=true):∀e∈l,K4 e=true→e.on<j:=by
 induction l with
 |nil=>simp
 |cons a l ih=>
  simp only[QY,Bool.and_eq_true]at h;intro e he hb;rcases List.mem_cons.1 he with rfl |he
  all_goals grind[K4,zA]
def K8 (mk wj lj:Nat) (e:D7):Prop:=mk.testBit e.i=true∨(Nat.beq (e.w&&&(lj|||wj)) 0=true∧Nat.beq (wj&&&e.l) 0=true)
theorem qQM {mk wj lj:Nat} {l:List D7} (h:OY mk wj lj l=true):∀e∈l,K8 mk wj lj e:=by
 induction l with
 |nil=>simp
 |cons a l ih=>
  simp only[OY,Bool.and_eq_true,Bool.or_eq_true]at h;intro e he;rcases List.mem_cons.1 he with rfl |he
  ·exact h.1
  grind
theorem qGa {t:PT Nat} {all:List Oper}:∀(l:List Oper) (j:Nat) (es:List D7),tY t all l j es=true→∀k o,l[k]? =some o→QY (j+k) o.after.toList=true∧
  (∀e∈es,K8 (xZ t (j+k)) (Jl o) (looks all o) e)∧∀i oi,i<k→l[i]? =some oi→K8 (xZ t (j+k)) (Jl o) (looks all o) ⟨j+i,Jl oi,looks all oi⟩:=by
 intro l
 induction l with
 |nil=>simp
 |cons a l ih=>
  intro j es h k o hk;simp only[tY,Bool.and_eq_true]at h;obtain⟨h1,h2,h3⟩:=h;cases k with
  |zero=>grind[qQM]
  |succ k=>
   simp at hk;obtain⟨g1,g2,g3⟩:=ih (j+1) _ h3 k o hk;rw[show j+1+k=j+(k+1) by omega]at g1 g2 g3;refine⟨g1,λe he=>g2 e (iX _ he),?_⟩;intro i oi hi l8;cases i with
   |zero=>grind
   |succ i=>
    grind
theorem TZ:∀(l:List Oper) (j:Nat) (t:PT Nat) (i:Nat),i<j→(wE l j t).get i=t.get i:=by
 intro l
 induction l with
 |nil=>intro j t i _;rfl
 |cons a l ih=>intro j t i hi;simp only[wE];rw[ih _ _ _ omQ,PT.bI,iQ omQ]
theorem qJi:∀(l:List Oper) (j:Nat) (t:PT Nat) (k:Nat) (o:Oper),l[k]? =some o→∃T:PT Nat,(∀i,i<j+k→(wE l j t).get i=T.get i)∧
  (wE l j t).get (j+k)=some (o.after.toList.foldl (λs e=>bif Region.binds .any e then s|||(2 ^ e.on|||xZ T e.on)else s) 0):=by
 intro l
 induction l with
 |nil=>simp
 |cons a l ih=>
  intro j t k o hk;cases k with
  |zero=>
   simp at hk;subst hk;refine⟨t,?_,?_⟩
   ·intro i hi;simp only[wE];rw[TZ _ _ _ _ omQ,PT.bI,iQ omQ]
   ·simp only[wE,Nat.add_zero];rw[TZ _ _ _ _ omQ,PT.bI,iJ rfl];rfl
  |succ k=>simp at hk;obtain⟨T,h1,h2⟩:=ih (j+1) _ k o hk;rw[show j+1+k=j+(k+1) by omega]at h1 h2;exact⟨T,h1,h2⟩
theorem qGM {T:PT Nat} {k:Nat}:∀(l:List Edge) (s:Nat),(l.foldl (λs e=>bif Region.binds .any e then s|||(2 ^ e.on|||xZ T e.on)else s) s).testBit k=true→
  s.testBit k=true∨∃e∈l,K4 e=true∧(k=e.on∨(xZ T e.on).testBit k=true):=by
 intro l
 induction l with
 |nil=>simp
 |cons a l ih=>
  intro s h;simp only[List.foldl_cons]at h;rcases ih _ h with h |⟨e,he,hb,hk⟩
  ·cases hb:Region.binds .any a
   ·grind
   ·rw[hb]at h;simp only[cond_true,Nat.testBit_or,Bool.or_eq_true,Nat.testBit_two_pow,decide_eq_true_eq]at h;rcases h with h |h |h
    ·grind
    ·exact .inr ⟨a,iK ..,hb,.inl h.symm⟩
    ·exact .inr ⟨a,iK ..,hb,.inr h⟩
  grind
theorem qja {ops:Array Oper} {i k:Nat} {o:Oper} (ho:ops[i]? =some o) (hb:QY i o.after.toList=true) (h:(xZ (wE ops.toList 0 .e) i).testBit k=true) :
  ∃e∈o.after,K4 e=true∧e.on<i∧(k=e.on∨(xZ (wE ops.toList 0 .e) e.on).testBit k=true):=by
 obtain⟨T,h1,h2⟩:=qJi ops.toList 0 .e i o (by grind);simp only[Nat.zero_add]at h1 h2;unfold xZ at h;rw[h2]at h;simp only[]at h;rcases qGM _ _ h with h |⟨e,he,Df,hk⟩
 all_goals grind[J9,xZ,wE]
theorem qJt {t:PT Nat} {s:Nat→Prop} (hs:∀a b,s a→(xZ t a).testBit b=true→s b):∀(l:List Oper) (j:Nat) (last:Option Nat),chain P t l j last=true→
  ∀k o,l[k]? =some o→zd P o.op=true→s (j+k)→(∀i,last=some i→s i)∧∀i oi,i<k→l[i]? =some oi→zd P oi.op=true→s (j+i):=by
 intro l
 induction l with
 |nil=>simp
 |cons a l ih=>
  intro j last h k o hk hh n6;simp only[chain]at h;cases ha:zd P a.op
  ·rw[ha]at h;cases k with
   |zero=>grind
   |succ k=>
    simp at hk;rw[show j+(k+1)=j+1+k by omega]at n6;obtain⟨g1,g2⟩:=ih (j+1) last h k o hk hh n6;refine⟨g1,?_⟩;intro i oi hi l8 iC;cases i with
    |zero=>grind
    |succ i=>
     grind
  ·rw[ha]at h;simp only[cond_true,Bool.and_eq_true]at h;obtain⟨h1,h2⟩:=h;have bP:s j→∀i,last=some i→s i:=by
    grind
   cases k with
   |zero=>grind
   |succ k=>
    simp at hk;rw[show j+(k+1)=j+1+k by omega]at n6;obtain⟨g1,g2⟩:=ih (j+1) (some j) h2 k o hk hh n6;have hj:=g1 j rfl;refine⟨bP hj,?_⟩;intro i oi hi l8 iC;cases i with
    |zero=>grind
    |succ i=>
     grind
theorem VT {t:PT Nat} {i:Nat}:∀(l:List Oper) (j:Nat),Xn P t i l j=false→∀k o,l[k]? =some o→zd P o.op=true→wO t i (j+k)=false:=by
 intro l
 induction l with
 |nil=>simp
 |cons a l ih=>
  intro j h k o hk hh;simp only[Xn,Bool.or_eq_false_iff]at h;cases k with
  |zero=>grind
  |succ k=>
   grind
theorem MQ {t:PT Nat} {p:Op→Bool} {all:List Oper}:∀(l:List Oper) (i:Nat),Xd P p t all l i=false→∀k o,l[k]? =some o→p o.op=true→
  ∀j oj,all[j]? =some oj→zd P oj.op=true→wO t (i+k) j=false:=by
 intro l
 induction l with
 |nil=>simp
 |cons a l ih=>
  intro i h k o hk hp j oj hj hh;simp only[Xd,Bool.or_eq_false_iff]at h;cases k with
  |zero=>simp at hk;subst hk;have h1:=h.1;rw[hp,Bool.true_and]at h1;have:=VT all 0 h1 j oj hj hh;grind
  |succ k=>
   grind
structure Stat (P:Program) (ops:Array Oper) (M:PT Nat):Prop where
  back:∀j o,ops[j]? =some o→∀e∈o.after,K4 e=true→e.on<j
  pT:∀i o k,ops[i]? =some o→(xZ M i).testBit k=true→∃e∈o.after,K4 e=true∧e.on<i∧(k=e.on∨(xZ M e.on).testBit k=true)
  apart:∀i j oi oj,i<j→ops[i]? =some oi→ops[j]? =some oj→K8 (xZ M j) (Jl oj) (looks ops.toList oj) ⟨i,Jl oi,looks ops.toList oi⟩
  chain:∀s:Nat→Prop,(∀a b,s a→(xZ M a).testBit b=true→s b)→∀i j oi oj,i<j→ops[i]? =some oi→ops[j]? =some oj→zd P oi.op=true→zd P oj.op=true→s j→s i
theorem qxp {ops:Array Oper} (h:Ih P ops=true):Stat P ops (wE ops.toList 0 .e):=by
 simp only[Ih,Bool.and_eq_true]at h;obtain⟨h1,h2⟩:=h;have hl:=qGa _ _ _ h1;refine⟨?_,?_,?_,?_⟩
 ·intro j o ho e he hb;have:=(hl j o (by grind)).1;rw[Nat.zero_add]at this;exact J9 this e (by grind) hb
 ·simp_all[Nat.zero_add,qja]
 ·grind
 ·intro s hs i j oi oj AD hi hj iC LY ET;have:=(qJt hs _ _ _ h2 j oj (by grind) LY (by grind)).2 i oi AD (by grind) iC;grind
end Go.Ae
namespace Go.Ae
open Go
variable {P:Program} {c:CV} {r r':Operand→Option AV} {h h':AH} {v:AV}
theorem ji {α:Type} {x y:Option α} {f g:α→R} {q:AV×AH} (hx:∀v,x=some v→y=some v) (hf:∀v,x=some v→f v=some q→g v=some q) (e:ob x f=some q):ob y g=some q:=by grind
theorem qK8 (hr:∀x v,r x=some v→r' x=some v):∀(l:List Operand) (s:List AV),ww r l=some s→ww r' l=some s:=by
 intro l
 induction l with
 |nil=>intro s e;exact e
 |cons a l ih=>grind[ww,Option.bind_eq_some_iff]
theorem OP (hr:∀x v,r x=some v→r' x=some v) {pl:Nat→Option (Nat×Nat)}:∀(l:List (Nat×Operand)) (s:List (Nat×Nat×AV)),yH pl r l=some s→yH pl r' l=some s:=by
 intro l
 induction l with
 |nil=>intro s e;exact e
 |cons a l ih=>intro s e;obtain⟨i,x⟩:=a;simp only[yH,Option.bind_eq_some_iff,Option.map_eq_some_iff]at e ⊢;grind
theorem qGr (hr:∀x v,r x=some v→r' x=some v) (x:Option Operand) (s:Option AV) (e:Yh r x=some s):Yh r' x=some s:=by
 cases x with
 |none=>exact e
 |some x=>grind[Yh,Option.map_eq_some_iff]
theorem U8 {o:Op} {k:AV→AH→R} {q:AV×AH} (hr:∀x v,r x=some v→r' x=some v) (e:bh P c o r h k=some q):bh P c o r' h k=some q:=by
 have m1:=qK8 hr;have m2:=λpl=>OP hr (pl:=pl);have m3:=qGr hr;cases o with
 |call cl=>
  cases hc:cl.callee with
  |value f=>simp only[bh,hc]at e ⊢;grind
  |invoke x name=>simp only[bh,hc]at e ⊢;grind
  |builtin b=>
   cases b<;>simp only[bh,hc,reduceCtorEq]at e ⊢
   case len=>
    grind
   case min=>grind
   case max=>grind
   case append=>
    generalize cl.argTypes.toList=ts at*;generalize cl.args.toList=xs at*;rcases xs with _ |⟨s,_ |⟨x,_ |⟨y,xs⟩⟩⟩<;>rcases ts with _ |⟨t,_ |⟨u,ts⟩⟩<;>simp only[reduceCtorEq]at e ⊢
    refine ji (λ_ e=>e) (λdu _ e=>?_) e;revert e
    split
    ·simp
    ·refine ji (λ_ e=>e) (λd _ e=>?_);revert e
     split
     all_goals grind
 |build t ps=>
  simp only[bh]at e ⊢;refine ji (λ_ e=>e) (λ_ _=>ji (λ_ e=>e) λd _ e=>?_) e;revert e
  split
  all_goals grind
 |buildSlice t n ps=>
  simp only[bh]at e ⊢;refine ji (λ_ e=>e) (λd _ e=>?_) e;revert e
  split
  ·refine ji (λ_ e=>e) (λ_ _ e=>?_);grind
  simp
 |makeFunc fn a cp=>
  grind
 |makeInterface t x=>
  grind
 |makeSlice t a b=>
  simp only[bh]at e ⊢;refine ji (λ_ e=>e) (λd _ e=>?_) e;revert e
  split
  all_goals grind
 |slice t x lo hi mx=>
  grind
 |pick a b d=>grind
 |store t a x=>grind
 |binOp op t x y u=>grind
 |indexAddr t x i=>grind
 |index t x i=>grind
 |alloc t=>grind
 |_=>first |exact ji (hr _) (λ_ _ e=>e) e |(simp only[bh,reduceCtorEq]at e;done)
def nP (F:Nat→Option AV) (dst:Option Tmp) (v:AV):Nat→Option AV:=λt=>if dst=some t then some v else F t
def eW (F:Nat→Option AV):Operand→Option AV
 | .tmp t=>F t
 | .const v=>Vv v
 | .global _=>none
 | .func f=>some (.fn f [] [])
def QZ (tm:PT AV) (F:Nat→Option AV):Prop:=∀t v,tm.get t=some v→F t=some v
theorem Iz {tm:PT AV} {F:Nat→Option AV} (h:QZ tm F):∀x v,ev tm x=some v→eW F x=some v:=by
 intro x v e;cases x with
 |tmp t=>exact h t v e
 |_=>exact e
def km:AV→Bool→Bool
 | .bool t,w=>t==w
 |_,_=>false
structure LZ (P:Program) (c:CV) (n:Nat) (ops:Array Oper) (LP:J7→Prop) (HP:Jv→Prop) (i:Nat) (o:Oper) (F:Nat→Option AV) (h:AH) (v:AV) (b:Bool) (h':AH):Prop where
  yes:b=true→cn P c o.op (eW F) h=some (v,h')
  no:b=false→v=.undef∧h'=h
  g0:o.guard=none→b=true
  g1:∀g,o.guard=some g→∃d vg,kS ops.toList o=some d∧F d=some vg∧b=km vg g.2
  dst:∀d,o.dst=some d→d<n
  ld:b=true→vm P o.op=true→∃a,J6 (eW F) o.op=some a∧LP ⟨i,a,wY P o.op,v⟩
  hv:b=true→zd P o.op=true→HP ⟨i,h,h'⟩
inductive nf (P:Program) (c:CV) (n:Nat) (ops:Array Oper) (LP:J7→Prop) (HP:Jv→Prop):Nat→(Nat→Option AV)→AH→Nat→(Nat→Option AV)→AH→Prop where
  |nil (i:Nat) (F:Nat→Option AV) (h:AH):nf P c n ops LP HP i F h i F h
  | cons (i : Nat) (o : Oper) (F : Nat → Option AV) (h : AH) (v : AV) (b : Bool) (h' : AH) (j : Nat) (F' : Nat → Option AV) (h2 : AH) : ops[i]? = some o → LZ P c n ops LP HP i o F h v b h' →
      nf P c n ops LP HP (i+1) (nP F o.dst v) h' j F' h2→nf P c n ops LP HP i F h j F' h2
theorem nf.trans {n:Nat} {ops:Array Oper} {LP:J7→Prop} {HP:Jv→Prop} {i j k:Nat} {F F' T3:Nat→Option AV} {h h' nN:AH}
  (a:nf P c n ops LP HP i F h j F' h') (b:nf P c n ops LP HP j F' h' k T3 nN):nf P c n ops LP HP i F h k T3 nN:=by
 induction a with
 |nil=>grind
 |cons i o F h v b' h' j F' h2 ho hs _ ih=>exact .cons i o F h v b' h' k _ _ ho hs (ih b)
structure Tr (P:Program) (c:CV) (n:Nat) (ops:Array Oper) (LP:J7→Prop) (HP:Jv→Prop) (F:Nat→Nat→Option AV) (H:Nat→AH) (V:Nat→AV) (W:Nat→Bool):Prop where
  step:∀i o,ops[i]? =some o→LZ P c n ops LP HP i o (F i) (H i) (V i) (W i) (H (i+1))∧F (i+1)=nP (F i) o.dst (V i)
theorem nf.fns {n:Nat} {ops:Array Oper} {LP:J7→Prop} {HP:Jv→Prop} {i j:Nat} {F0 F1:Nat→Option AV} {h0 h1:AH} (a:nf P c n ops LP HP i F0 h0 j F1 h1) :
  i≤j∧∃(F:Nat→Nat→Option AV) (H:Nat→AH) (V:Nat→AV) (W:Nat→Bool),F i=F0∧H i=h0∧F j=F1∧H j=h1∧
   ∀k o,i≤k→k<j→ops[k]? =some o→LZ P c n ops LP HP k o (F k) (H k) (V k) (W k) (H (k+1))∧F (k+1)=nP (F k) o.dst (V k):=by
 induction a with
 |nil i F h=>exact⟨Nat.le_refl _,λ_=>F,λ_=>h,λ_=>.undef,λ_=>true,rfl,rfl,rfl,rfl,λk o h1 h2=>by omega⟩
 |cons i o F h v b h' j F' h2 ho hs _ ih=>
  obtain⟨AD,G,H,V,W,e1,e2,e3,e4,e5⟩:=ih;refine⟨by omega,λk=>if k=i then F else G k,λk=>if k=i then h else H k,λk=>if k=i then v else V k,λk=>if k=i then b else W k,by simp,by simp,?_,?_,?_⟩
  all_goals grind
end Go.Ae
namespace Go.Ae
open Go
variable {P:Program} {c:CV} {n:Nat} {ops:Array Oper}
theorem GN {tm:PT AV} {F:Nat→Option AV} (h:QZ tm F) {dst:Option Tmp} {v:AV} {k:PT AV→R} {r:AV×AH} (e:VI n tm dst v k=some r) :
  ∃tm',k tm'=some r∧QZ tm' (nP F dst v)∧∀d,dst=some d→d<n:=by
 cases dst with
 |none=>exact⟨tm,e,λt u hu=>by simp only[nP];rw[iQ aA];exact h t u hu,λd hd=>by grind⟩
 |some d=>
  simp only[VI,xm]at e;refine⟨_,e.2,?_,λd' hd=>by cases hd;exact zA e.1⟩;intro t u hu;rw[PT.bI]at hu;simp only[nP];by_cases hd:d=t
  ·grind
  ·rw[iQ hd]at hu;rw[iQ (by grind)];exact h t u hu
theorem M2 {o:Op} (hl:vm P o=true):Uc o=true∨Qc P o=true∨kJ P o=true:=by simp_all[vm,Bool.or_eq_true]
theorem qYD {o:Op} (hl:Qc P o=true):∃t x lo hi mx,o=.slice t x lo hi mx:=by
 cases o<;>first |exact⟨_,_,_,_,_,rfl⟩ |cases hl
theorem qve {o:Op} (hl:vm P o=true):zd P o=false:=by
 rcases M2 hl with h |h |h
 ·obtain⟨t,x,rfl⟩:=Xt h;rfl
 ·obtain⟨t,x,lo,hi,mx,rfl⟩:=qYD h;rfl
 grind[TY]
theorem qz7 {tm:PT AV} {F:Nat→Option AV} (T:QZ tm F) {o:Op} {a:AV} (h:J6 (ev tm) o=some a):J6 (eW F) o=some a:=by
 cases o<;>first |exact Iz T _ _ h |cases h
theorem T4 {F:Nat→Option AV} {h h':AH} {o:Op} {v:AV} (e:cn P c o (eW F) h=some (v,h')) (hl:vm P o=true):∃a,J6 (eW F) o=some a:=by
 rcases M2 hl with hl |hl |hl
 ·obtain⟨t,x,rfl⟩:=Xt hl;obtain⟨_,b,off,hx,_⟩:=Va e;exact⟨_,hx⟩
 ·obtain⟨_,x,_,u,_,hu,_⟩:=Nb hl e;simp_all
 ·obtain⟨_,_,_,x,_,u,_,hu,_⟩:=Vy hl e;simp_all
theorem MW {F:Nat→Option AV} {dst:Option Tmp} {v:AV} {d:Nat} (h:dst≠some d):nP F dst v d=F d:=by simp_all[nP]
abbrev LT:J7→Prop:=λ_=>True
abbrev HT:Jv→Prop:=λ_=>True
theorem qjB {g:Option (Nat×Bool)} {r:AV×AH}:∀(l:List Oper) (j:Nat) (tm:PT AV) (F:Nat→Option AV) (h:AH) (k:PT AV→AH→R),
  (∀i o,l[i]? =some o→ops[j+i]? =some o∧o.guard=g)→
  (∀q,g=some q→∃d vg,(∀o:Oper,o.guard=some q→kS ops.toList o=some d)∧writes d l=false∧F d=some vg∧km vg q.2=true)→
  QZ tm F→C6 P c n l tm h k=some r→∃tm' h' F',k tm' h'=some r∧QZ tm' F'∧nf P c n ops LT HT j F h (j+l.length) F' h':=by
 intro l
 induction l with
 |nil=>intro j tm F h k _ _ T e;exact⟨tm,h,F,e,T,.nil _ _ _⟩
 |cons o l ih=>
  intro j tm F h k hl hg T e;simp only[C6]at e;obtain⟨v,h1,e1,e⟩:=Xg e;have e1:=U8 (Iz T) e1;obtain⟨cF,e,T1,hd⟩:=GN T e;obtain⟨ho,fB⟩:=hl 0 o rfl
  obtain⟨tm',h',F',e',T',S⟩:=ih (j+1) cF _ h1 k (λi o' hi=>by have:=hl (i+1) o' hi;rwa [show j+(i+1)=j+1+i by omega]at this) (by
   intro q hq;obtain⟨d,vg,g1,g2,g3,g4⟩:=hg q hq;refine⟨d,vg,g1,?_,?_,g4⟩
   ·simp only[writes,Bool.or_eq_false_iff]at g2;exact g2.2
   ·rw[MW (YJ g2 o (iK ..))];omega) T1 e
  refine⟨tm',h',F',e',T',?_⟩;rw[show j+(o::l).length=j+1+l.length by simp;omega];refine .cons j o F h v true h1 _ _ _ ho ⟨λ_=>e1,(λhh=>by cases hh),λ_=>rfl,?_,hd,?_,λ_ _=>trivial⟩ S
  ·intro q hq;rw[fB]at hq;obtain⟨d,vg,g1,g2,g3,g4⟩:=hg q hq;exact⟨d,vg,g1 o (by rw[fB,hq]),g3,g4.symm⟩
  ·intro _ sk;obtain⟨a,ha⟩:=T4 e1 sk;exact⟨a,ha,trivial⟩
theorem qK7 {q:Nat×Bool} {d:Nat} {vg:AV} {h:AH} {r:AV×AH}:∀(l:List Oper) (j:Nat) (tm:PT AV) (F:Nat→Option AV) (k:PT AV→R),
  (∀i o,l[i]? =some o→ops[j+i]? =some o∧o.guard=some q)→
  (∀o:Oper,o.guard=some q→kS ops.toList o=some d)→writes d l=false→F d=some vg→km vg q.2=false→
  QZ tm F→Uu n l tm k=some r→∃tm' F',k tm'=some r∧QZ tm' F'∧nf P c n ops LT HT j F h (j+l.length) F' h:=by
 intro l
 induction l with
 |nil=>intro j tm F k _ _ _ _ _ T e;exact⟨tm,F,e,T,.nil _ _ _⟩
 |cons o l ih=>
  intro j tm F k hl o7 hw hF AE T e;simp only[Uu]at e;obtain⟨cF,e,T1,hd⟩:=GN T e;obtain⟨ho,fB⟩:=hl 0 o rfl;have dA:=YJ hw;obtain⟨tm',F',e',T',S⟩:=ih (j+1) cF _ k (λi o' hi=>by have:=hl (i+1) o' hi;grind) o7
   (by grind[writes,Bool.or_eq_false_iff]) (by simp_all[MW]) AE T1 e
  refine⟨tm',F',e',T',?_⟩;rw[show j+(o::l).length=j+1+l.length by grind];refine .cons j o F h .undef false h _ _ _ ho ⟨(λhh=>by grind),λ_=>⟨rfl,rfl⟩,(λhh=>by grind),?_,hd,(λhh=>by grind),(λhh=>by simp)⟩ S;grind
theorem qyL {tm:PT AV} {F:Nat→Option AV} (T:QZ tm F):∀(L:List Nat) (acc:PT AV),QZ acc F→yK tm L=true→QZ (wP L (g9 L tm) acc) F:=by
 intro L
 induction L with
 |nil=>intro acc A _;exact A
 |cons t L ih=>
  intro acc A hh;simp only[yK,Bool.and_eq_true]at hh;simp only[g9,wP];refine ih _ ?_ hh.2;have h1:=hh.1;unfold has at h1
  split at h1
  ·rename_i v hv;intro s u hs;rw[PT.bI]at hs;by_cases e:t=s
   ·subst e;rw[iJ rfl]at hs;cases hs;exact T t v hv
   ·rw[iQ e]at hs;exact A s u hs
  grind
theorem T5 {tm:PT AV} {F:Nat→Option AV} (T:QZ tm F) (L:List Nat) (hh:yK tm L=true):QZ (wP L (g9 L tm) .e) F:=qyL T L .e (λt v hv=>by trivial) hh
theorem U0 {v:AV} {w:Bool} {a b:R} {r:AV×AH} (e:xe v w a b=some r):(km v w=true∧a=some r)∨(km v w=false∧b=some r):=by
 rw[Um]at e
 split at e
 ·rename_i t;simp only[km];grind
 ·rename_i hn;refine .inr ⟨?_,e⟩;cases v<;>first |rfl |grind
theorem qqU {r:AV×AH}:∀(f:Nat) (l:List Oper) (j:Nat) (Ls:List (List Nat)) (tm:PT AV) (F:Nat→Option AV) (h:AH) (k:PT AV→AH→R),
  (∀i o,l[i]? =some o→ops[j+i]? =some o)→QZ tm F→Ye P c n ops.toList f l Ls tm h k=some r→
  ∃tm' h' F',k tm' h'=some r∧QZ tm' F'∧nf P c n ops LT HT j F h (j+l.length) F' h':=by
 intro f
 induction f with
 |zero=>
  intro l j Ls tm F h k hl T e;cases l with
  |nil=>exact⟨tm,h,F,e,T,.nil _ _ _⟩
  |cons o l=>grind
 |succ f ih=>
  intro l j Ls tm F h k hl T e;cases l with
  |nil=>exact⟨tm,h,F,e,T,.nil _ _ _⟩
  |cons o l=>
   cases hg:o.guard with
   |none=>simp only[Ye,hg]at e;obtain⟨v,h1,e1,e⟩:=Xg e;have e1:=U8 (Iz T) e1;obtain⟨cF,e,T1,hd⟩:=GN T e;obtain⟨tm',h',F',e',T',S⟩:=ih l (j+1) Ls cF _ h1 k (λi o' hi=>by have:=hl (i+1) o' hi;rwa [show j+(i+1)=j+1+i by omega]at this) T1 e;refine⟨tm',h',F',e',T',?_⟩;rw[show j+(o::l).length=j+1+l.length by simp;omega];refine .cons j o F h v true h1 _ _ _ (hl 0 o rfl) ⟨λ_=>e1,(λhh=>by cases hh),λ_=>rfl,(λq hq=>by simp_all),hd,?_,λ_ _=>trivial⟩ S;intro _ sk;obtain⟨a,ha⟩:=T4 e1 sk;simp_all
   |some g=>
    simp only[Ye,hg,qO]at e;obtain⟨d,hd,vg,uj,e⟩:=e;cases Ls with
    |nil=>grind
    |cons L Ak=>
     simp only[MB]at e;obtain⟨uk,e⟩:=e;have o7:∀o':Oper,o'.guard=some g→kS ops.toList o'=some d:=by simp_all[kS]
     have hF:=T d vg uj;have ik:o::l=(o::(zp g l).1)++(zp g l).2:=by rw[List.cons_append,Nz]
     have oV:∀i o',(o::(zp g l).1)[i]? =some o'→ops[j+i]? =some o'∧o'.guard=some g:=by
      intro i o' hi;refine⟨hl i o' ?_,?_⟩
      ·rw[ik,List.getElem?_append_left (List.getElem?_eq_some_iff.1 hi).1];omega
      ·rcases List.mem_cons.1 (List.mem_of_getElem? hi)with rfl |hm
       ·omega
       ·exact TQ g l o' hm
     have l6:∀i o',(zp g l).2[i]? =some o'→ops[j+(o::(zp g l).1).length+i]? =some o':=by intro i o' hi;rw[Nat.add_assoc];refine hl _ o' ?_;rw[ik,List.getElem?_append_right omQ];simp;omega
     have hlen:j+(o::l).length=j+(o::(zp g l).1).length+(zp g l).2.length:=by have:=congrArg List.length ik;simp at*;omega
     have fin:∀cF h1 F1,QZ cF F1→nf P c n ops LT HT j F h (j+(o::(zp g l).1).length) F1 h1→
       cJ (yK cF L) (Ye P c n ops.toList f (zp g l).2 Ak (wP L (g9 L cF) .e) h1 k) none=some r→
       ∃tm' h' F',k tm' h'=some r∧QZ tm' F'∧nf P c n ops LT HT j F h (j+(o::l).length) F' h':=by
      intro cF h1 F1 T1 S1 e1;rw[xm]at e1;obtain⟨tm',h',F',e',T',S⟩:=ih (zp g l).2 _ Ak _ F1 h1 k l6 (T5 T1 L e1.1) e1.2;refine⟨tm',h',F',e',T',?_⟩;rw[hlen];exact S1.trans S
     simp only[zg]at e;rcases U0 e with⟨hw,e⟩ |⟨hw,e⟩
     ·obtain⟨cF,h1,F1,e1,T1,S1⟩:=qjB (o::(zp g l).1) j tm F h _ oV (by
       intro q hq;cases hq;exact⟨d,vg,o7,uk,hF,hw⟩) T e
      exact fin cF h1 F1 T1 S1 e1
     ·obtain⟨cF,F1,e1,T1,S1⟩:=qK7 (P:=P) (c:=c) (h:=h) (o::(zp g l).1) j tm F _ oV o7 uk hF hw T e;exact fin cF h F1 T1 S1 e1
def pb (kn:List (Nat×Bool×Bool)) (F:Nat→Option AV):Prop:=∀x∈kn,∃v,F x.1=some v∧km v x.2.1=x.2.2
theorem XD {kn:List (Nat×Bool×Bool)} {F:Nat→Option AV} {d:Nat} {w t:Bool} {v:AV} (K:pb kn F) (hv:F d=some v) (e:J2 kn d w=some t):km v w=t:=by
 induction kn with
 |nil=>cases e
 |cons x r ih=>
  obtain⟨u,h1,h2⟩:=K x (iK ..);unfold J2 at e;cases h3:(Nat.beq x.1 d&&(x.2.1==w))
  ·rw[h3,cond_false]at e;cases h4:(Nat.beq x.1 d&&x.2.2)
   ·rw[h4,cond_false]at e;exact ih (λy hy=>K y (iX _ hy)) e
   ·rw[h4,cond_true]at e;cases e;rw[Bool.and_eq_true]at h4;have hd:=Nat.eq_of_beq_eq_true h4.1;rw[hd,hv]at h1;cases h1;rw[h4.2]at h2;rw[h4.1,Bool.true_and]at h3;cases v with
    |bool b=>simp_all[km,beq_iff_eq]
    |_=>rfl
  simp_all
theorem pb.drop {kn:List (Nat×Bool×Bool)} {F:Nat→Option AV} {dst:Option Tmp} {v:AV} (K:pb kn F):pb (dy dst kn) (nP F dst v):=by
 induction kn with
 |nil=>nofun
 |cons x r ih=>
  have ihr:=ih λy hy=>K y (iX _ hy);unfold dy;cases hb:Bl dst x.1
  ·rw[cond_false];intro y hy;rcases List.mem_cons.1 hy with rfl |hy
   ·obtain⟨u,h1,h2⟩:=K y (iK ..);refine⟨u,?_,h2⟩;simp only[nP];rw[iQ ?_]
    all_goals grind[Bl,Nat.beq_refl]
   ·exact ihr y hy
  grind
theorem KK {x:Operand} {F:Nat→Option AV} {b:Bool} {v:AV} (h:Xy x=some b) (e:eW F x=some v):v=.bool b:=by
 cases x<;>try (cases h;done)
 rename_i k;simp only[Xy]at h;have e:Vv k=some v:=e;grind
theorem qzI {kn:List (Nat×Bool×Bool)} {F:Nat→Option AV} {o:Op} {h h':AH} {v:AV} {b:Bool} (K:pb kn F) (e:cn P c o (eW F) h=some (v,h')) (hl:Uw kn o=some b):v=.bool b:=by
 have mv:∀d,Ii kn d=some b→F d=some v→v=.bool b:=λd hb hv=>by
  unfold Ii at hb
  split at hb
  ·rename_i h1;cases hb;have:=XD K hv h1;cases v<;>first |(cases this;done) |skip
   rename_i s;cases s<;>first |rfl |trivial
  ·split at hb
   ·rename_i h1;cases hb;have:=XD K hv h1;cases v<;>first |(cases this;done) |skip
    rename_i s;cases s<;>first |rfl |trivial
   trivial
 cases o<;>try (cases hl;done)
 case move x=>
  cases x<;>try (cases hl;done)
  unfold cn at e;simp only[bh,qO]at e;obtain⟨u,hu,e⟩:=e;simp only[Option.some.injEq,Prod.mk.injEq]at e;exact mv _ hl (by rw[← e.1];exact hu)
 case assign x=>
  cases x<;>try (cases hl;done)
  unfold cn at e;simp only[bh,qO]at e;obtain⟨u,hu,e⟩:=e;simp only[Option.some.injEq,Prod.mk.injEq]at e;exact mv _ hl (by rw[← e.1];exact hu)
 rename_i x y z;cases x<;>try (cases hl;done)
 rename_i d;simp only[Uw]at hl;unfold cn at e;simp only[bh,qO]at e;obtain⟨vx,hx,vy,hy,vz,hz,e⟩:=e;have hx:F d=some vx:=hx;cases hk:J2 kn d true with
 |none=>
  rw[hk]at hl;cases hX:J2 kn d false with
  |none=>grind
  |some t=>
   rw[hX]at hl;cases t with
   |true=>grind
   |false=>
    have hw:=XD K hx hX;cases vx with
    |bool s=>
     cases s with
     |false=>cases hw
     |true=>have hl:Xy y=some b:=hl;have e2:some (vy,h)=some (v,h'):=e;grind[Option.some.injEq,Prod.mk.injEq,KK]
    |_=>cases e
 |some t=>
  rw[hk]at hl;have hw:=XD K hx hk;cases vx with
  |bool s=>
   have bK:s=t:=by cases s<;>cases t<;>first |rfl |cases hw
   subst bK;cases s with
   |false=>have hl:Xy z=some b:=hl;have e2:some (vz,h)=some (v,h'):=e;grind[Option.some.injEq,Prod.mk.injEq,KK]
   |true=>have hl:Xy y=some b:=hl;have e2:some (vy,h)=some (v,h'):=e;grind[Option.some.injEq,Prod.mk.injEq,KK]
  |_=>cases e
theorem pb.sn {kn:List (Nat×Bool×Bool)} {F:Nat→Option AV} {o:Op} {dst:Option Tmp} {h h':AH} {v:AV} (K:pb kn F) (e:cn P c o (eW F) h=some (v,h')):pb (Qg dst o kn) (nP F dst v):=by
 unfold Qg;generalize Tm=b;cases b
 ·exact K.drop
 ·rw[cond_true];cases dst with
  |none=>exact K.drop
  |some t=>
   cases hl:Uw kn o with
   |none=>exact K.drop
   |some b=>
    have:=qzI K e hl;subst this;intro x hx;rcases List.mem_cons.1 hx with rfl |hx
    ·exact⟨.bool b,by simp[nP],by cases b<;>rfl⟩
    ·rcases List.mem_cons.1 hx with rfl |hx
     ·exact⟨.bool b,by simp[nP],by cases b<;>rfl⟩
     ·exact K.drop x hx
theorem qJ0 {kn:List (Nat×Bool×Bool)} {F:Nat→Option AV} {d:Nat} {w:Bool} {v:AV} {a b:R} {r:AV×AH} (K:pb kn F) (hv:F d=some v) (e:Tl (J2 kn d w) v w a b=some r):(km v w=true∧a=some r)∨(km v w=false∧b=some r):=by
 grind[J2,U0,XD]
theorem pb.more {kn:List (Nat×Bool×Bool)} {F:Nat→Option AV} {d:Nat} {w t:Bool} {v:AV} (K:pb kn F) (hv:F d=some v) (hw:km v w=t):pb ((d,w,t)::kn) F:=by
 intro x hx;rcases List.mem_cons.1 hx with rfl |hx
 ·grind
 ·exact K x hx
theorem qYb {r:AV×AH}:∀(l:List Oper) (j:Nat) (kn:List (Nat×Bool×Bool)) (tm:PT AV) (F:Nat→Option AV) (h:AH) (ls:List J7) (hs:List Jv) (k:PT AV→AH→List J7→List Jv→R),
  (∀i o,l[i]? =some o→ops[j+i]? =some o)→QZ tm F→pb kn F→Gy P c n ops.toList l j kn tm h ls hs k=some r→
  ∃tm' h' F' ng nh,k tm' h' ng nh=some r∧QZ tm' F'∧(∀x∈ls,x∈ng)∧(∀x∈hs,x∈nh)∧∀(LP:J7→Prop) (HP:Jv→Prop),(∀x∈ng,LP x)→(∀x∈nh,HP x)→nf P c n ops LP HP j F h (j+l.length) F' h':=by
 intro l
 induction l with
 |nil=>intro j kn tm F h ls hs k _ T _ e;exact⟨tm,h,F,ls,hs,e,T,λ_ h=>h,λ_ h=>h,λ_ _ _ _=>.nil _ _ _⟩
 |cons o l ih=>
  intro j kn tm F h ls hs k hl T KN e;have dN:∀i o',l[i]? =some o'→ops[j+1+i]? =some o':=λi o' hi=>by have:=hl (i+1) o' hi;rwa [show j+(i+1)=j+1+i by omega]at this
  have ho:=hl 0 o rfl;have yes:∀(EU:List (Nat×Bool×Bool)) (IA:pb EU F) (IB:∀g,o.guard=some g→∃d vg,kS ops.toList o=some d∧F d=some vg∧true=km vg g.2),
    bh P c o.op (ev tm) h (λv h'=>VI n tm o.dst v λtm'=>
     cJ (vm P o.op) (ob (J6 (ev tm) o.op) λa=>Gy P c n ops.toList l (j+1) (Qg o.dst o.op EU) tm' h' (⟨j,a,wY P o.op,v⟩::ls) hs k) (cJ (zd P o.op) (Gy P c n ops.toList l (j+1) (Qg o.dst o.op EU) tm' h' ls (⟨j,h,h'⟩::hs) k) (Gy P c n ops.toList l (j+1) (Qg o.dst o.op EU) tm' h' ls hs k)))=some r→
    ∃tm' h' F' ng nh,k tm' h' ng nh=some r∧QZ tm' F'∧(∀x∈ls,x∈ng)∧(∀x∈hs,x∈nh)∧∀(LP:J7→Prop) (HP:Jv→Prop),(∀x∈ng,LP x)→(∀x∈nh,HP x)→nf P c n ops LP HP j F h (j+(o::l).length) F' h':=by
   intro EU IA IB e;obtain⟨v,h1,e1,e⟩:=Xg e;have e1:=U8 (Iz T) e1;obtain⟨cF,e,T1,hd⟩:=GN T e;rw[show j+(o::l).length=j+1+l.length by simp;omega];cases sk:vm P o.op
   ·rw[sk]at e;simp only[cJ]at e;cases EV:zd P o.op
    ·rw[EV]at e;simp only[]at e;obtain⟨tm',h',F',ng,nh,e',T',s1,s2,S⟩:=ih (j+1) _ cF _ h1 ls hs k dN T1 (IA.sn e1) e;refine⟨tm',h',F',ng,nh,e',T',s1,s2,λLP HP hL hH=>?_⟩;exact .cons j o F h v true h1 _ _ _ ho ⟨λ_=>e1,(λhh=>by cases hh),λ_=>rfl,IB,hd,(λ_ hh=>by simp_all),(λ_ hh=>by simp_all)⟩ (S LP HP hL hH)
    ·rw[EV]at e;simp only[]at e;obtain⟨tm',h',F',ng,nh,e',T',s1,s2,S⟩:=ih (j+1) _ cF _ h1 ls _ k dN T1 (IA.sn e1) e;refine⟨tm',h',F',ng,nh,e',T',s1,λx hx=>s2 x (iX _ hx),λLP HP hL hH=>?_⟩;exact .cons j o F h v true h1 _ _ _ ho ⟨λ_=>e1,(λhh=>by cases hh),λ_=>rfl,IB,hd,(λ_ hh=>by simp_all),λ_ _=>hH _ (s2 _ (iK ..))⟩ (S LP HP hL hH)
   ·rw[sk]at e;simp only[cJ,qO]at e;obtain⟨a,ha,e⟩:=e;obtain⟨tm',h',F',ng,nh,e',T',s1,s2,S⟩:=ih (j+1) _ cF _ h1 _ hs k dN T1 (IA.sn e1) e;have EW:J6 (eW F) o.op=some a:=qz7 T ha;refine⟨tm',h',F',ng,nh,e',T',λx hx=>s1 x (iX _ hx),s2,λLP HP hL hH=>?_⟩;refine .cons j o F h v true h1 _ _ _ ho ⟨λ_=>e1,(λhh=>by cases hh),λ_=>rfl,IB,hd,λ_ _=>⟨a,EW,hL _ (s1 _ (iK ..))⟩,?_⟩ (S LP HP hL hH);simp_all[qve]
  cases hg:o.guard with
  |none=>simp only[Gy,hg]at e;exact yes kn KN (λg hh=>by simp_all) e
  |some g=>
   simp only[Gy,hg,qO]at e;obtain⟨d,hd,vg,uj,e⟩:=e;rcases qJ0 KN (T d vg uj) e with⟨hw,e⟩ |⟨hw,e⟩
   ·exact yes _ (KN.more (T d vg uj) hw) (λg' hh=>by rw[hg]at hh;cases hh;exact⟨d,vg,hd,T d vg uj,hw.symm⟩) e
   ·obtain⟨cF,e,T1,sq⟩:=GN T e;obtain⟨tm',h',F',ng,nh,e',T',s1,s2,S⟩:=ih (j+1) _ cF _ h ls hs k dN T1 (KN.more (T d vg uj) hw).drop e;refine⟨tm',h',F',ng,nh,e',T',s1,s2,λLP HP hL hH=>?_⟩;rw[show j+(o::l).length=j+1+l.length by simp;omega];refine .cons j o F h .undef false h _ _ _ ho ⟨(λhh=>by cases hh),λ_=>⟨rfl,rfl⟩,(λhh=>by rw[hg]at hh;cases hh),?_,sq,(λhh=>by cases hh),(λhh=>by cases hh)⟩ (S LP HP hL hH);intro g' hh;rw[hg]at hh;cases hh;exact⟨d,vg,hd,T d vg uj,hw.symm⟩
end Go.Ae
namespace Go.Ae
open Go
variable {P:Program} {c:CV}
theorem qZ6 (hc:yh P c) {o:Oper} {r:Operand→Option AV} {h h':AH} {v:AV} {m:Mp} {D:Nat→Prop} {w:World} (hr:∀x v,r x=some v→bp D v) (RR:Rel P m D h w)
  (e:cn P c o.op r h=some (v,h')):∃m' D' w',Ext m D h w m' D' h' w'∧Rel P m' D' h' w'∧bp D' v:=by
 let ρ:Operand→Value:=λx=>match r x with |some v=>cv m v |none=>undef
 have hρ:eP m D ρ r:=λx u hu=>⟨by simp only[ρ,hu],hr x u hu⟩;by_cases hv:∃cl f,o.op=.call cl∧cl.callee=.value f
 ·obtain⟨cl,f,ho,fA⟩:=hv;unfold cn at e;rw[ho]at e;simp only[bh,fA,qO]at e;obtain⟨vf,Au,va,ui,e⟩:=e;obtain⟨f1,f2⟩:=hρ _ _ Au;obtain⟨v1,v2⟩:=QP hρ ui;rw[Qb]at e
  split at e
  ·rename_i q hq;simp only[Option.some.injEq,Prod.mk.injEq]at e;obtain⟨rfl,rfl⟩:=e;have eJ:=hc vf va h q hq m D w RR f2 v2;cases vf<;>simp only[OI]at eJ
   case fn f' first cap=>obtain⟨e,w',fr,hR,_⟩:=(eJ.2 0).2 [] (room_wide _);obtain⟨m',D',_,hx,fS,hd⟩:=hR;grind
   case yield l=>obtain⟨f',tmps,assign,body,k1,k2⟩:=eJ;obtain⟨e,w',hR,_⟩:=(k2 0).2 default [] (room_wide _);obtain⟨m',D',_,hx,fS,hd⟩:=hR;grind
  grind
 ·have Ew:∀cl f,o.op=.call cl→cl.callee≠.value f:=λcl f h1 h2=>hv ⟨cl,f,h1,h2⟩;by_cases hi:∃cl x name,o.op=.call cl∧cl.callee=.invoke x name
  ·obtain⟨cl,x,name,ho,fA⟩:=hi;unfold cn at e;rw[ho]at e;simp only[bh,fA,qO]at e;obtain⟨vx,By,va,ui,e⟩:=e;obtain⟨f1,f2⟩:=hρ _ _ By;obtain⟨v1,v2⟩:=QP hρ ui;unfold yp at e
   split at e
   ·rename_i t y;cases hf:Kl (OD P name) t with
    |none=>simp_all
    |some f=>
     rw[hf]at e;simp only[Qb]at e
     split at e
     ·rename_i q hq;simp only[Option.some.injEq,Prod.mk.injEq]at e;obtain⟨rfl,rfl⟩:=e;have eJ:=hc (.fn f [] []) (y::va) h q hq m D w RR ⟨trivial,trivial⟩ ⟨f2,v2⟩;obtain⟨e,w',fr,hR,_⟩:=(eJ.2 0).2 [] (room_wide _);obtain⟨m',D',_,hx,fS,hd⟩:=hR;grind
     grind
   grind
  have iz:∀cl x n,o.op=.call cl→cl.callee≠.invoke x n:=λcl x n h1 h2=>hi ⟨cl,x,n,h1,h2⟩;obtain⟨m',D',w',_,ex,re,hd⟩:=TN (o:=o) Ew iz hρ RR e;exact⟨m',D',w',ex,re,hd⟩
def Dg (D:Nat→Prop) (H:Nat→AH) (i:Nat):Nat→Prop:=λb=>D b∨((H 0).nx≤b∧b<(H i).nx)
theorem Ext.sr {m m':Mp} {D D':Nat→Prop} {h h':AH} {w w':World} (e:Ext m D h w m' D' h' w'):D'=λb=>D b∨(h.nx≤b∧b<h'.nx):=funext λb=>propext (e.dm b)
structure Gh (P:Program) (D:Nat→Prop) (H:Nat→AH) (F:Nat→Nat→Option AV) (i:Nat):Prop where
  nx:(H 0).nx≤(H i).nx
  un:∀b,b<(H 0).nx→¬D b→(H i).get b=(H 0).get b
  bf:∀b,Dg D H i b→∃x,(H i).get b=some x∧cA (Dg D H i) x
  slot:∀t v,F i t=some v→bp (Dg D H i) v
  ni:∀b t,Dg D H i b→(H i).get b=some (.cO t)→D b∧(H 0).get b=some (.cO t)
theorem qg2 {D:Nat→Prop} {F:Nat→Option AV} (hF:∀t v,F t=some v→bp D v):∀x v,eW F x=some v→bp D v:=by
 intro x v e;cases x with
 |tmp t=>exact hF t v e
 |const k=>exact(JV (m:=λ_=>(0,0)) (D:=D) e).2
 |global g=>cases e
 |func f=>cases e;trivial
theorem Z6 (hc:yh P c) {n:Nat} {ops:Array Oper} {LP:J7→Prop} {HP:Jv→Prop} {F:Nat→Nat→Option AV} {H:Nat→AH} {V:Nat→AV} {W:Nat→Bool}
  (T:Tr P c n ops LP HP F H V W) {m:Mp} {D:Nat→Prop} {w:World} (RR:Rel P m D (H 0) w) (h0:∀t v,F 0 t=some v→bp D v) :
  ∀i,i≤ops.size→(∃m' w',Ext m D (H 0) w m' (Dg D H i) (H i) w'∧Rel P m' (Dg D H i) (H i) w'∧∀t v,F i t=some v→bp (Dg D H i) v)∧(∀j,j<i→(H j).nx≤(H (j+1)).nx∧bp (Dg D H (j+1)) (V j)):=by
 intro i
 induction i with
 |zero=>intro _;have hD:Dg D H 0=D:=funext λb=>propext ⟨λh=>h.elim id λh=>by omega,.inl⟩;grind[Ext.refl]
 |succ i ih=>
  intro hi;obtain⟨⟨m1,w1,X1,R1,s1⟩,hb⟩:=ih omQ;obtain⟨o,ho⟩:∃o,ops[i]? =some o:=⟨_,Array.getElem?_eq_getElem omQ⟩;obtain⟨st,hF⟩:=T.step i o ho;have key:∃m' w',Ext m1 (Dg D H i) (H i) w1 m' (Dg D H (i+1)) (H (i+1)) w'∧Rel P m' (Dg D H (i+1)) (H (i+1)) w'∧bp (Dg D H (i+1)) (V i):=by
   cases hw:W i with
   |true=>
    obtain⟨m',D',w',X,R',hv⟩:=qZ6 hc (o:=o) (qg2 s1) R1 (st.yes hw);have hD:D'=Dg D H (i+1):=by
     rw[X.sr];have:=X1.nx;have:=X.nx
     funext b
     simp only[Dg,eq_iff_iff];grind
    grind
   |false=>
    obtain⟨e1,e2⟩:=st.no hw;have hD:Dg D H (i+1)=Dg D H i:=by grind[Dg]
    rw[hD,e2,e1];exact⟨m1,w1,Ext.refl ..,R1,trivial⟩
  obtain⟨m2,w2,X2,R2,hv⟩:=key;refine⟨⟨m2,w2,X1.trans X2,R2,?_⟩,?_⟩
  ·intro t v ht;rw[hF]at ht;unfold nP at ht
   split at ht
   ·grind
   ·exact X2.bp (s1 t v ht)
  ·intro j hj;by_cases L0:j=i
   ·subst L0;exact⟨X2.nx,hv⟩
   grind
theorem qYO (hc:yh P c) {n:Nat} {ops:Array Oper} {LP:J7→Prop} {HP:Jv→Prop} {F:Nat→Nat→Option AV} {H:Nat→AH} {V:Nat→AV} {W:Nat→Bool}
  (T:Tr P c n ops LP HP F H V W) {m:Mp} {D:Nat→Prop} {w:World} (RR:Rel P m D (H 0) w) (h0:∀t v,F 0 t=some v→bp D v) {i:Nat} (hi:i≤ops.size):Gh P D H F i:=by
 obtain⟨⟨m',w',X,R',s⟩,_⟩:=Z6 hc T RR h0 i hi;refine⟨X.nx,λb hb hn=>(X.un b hb hn).1,?_,s,X.ni⟩;intro b hb;obtain⟨x,hx,_,hd⟩:=R'.bf b hb;grind
end Go.Ae
